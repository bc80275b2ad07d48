import Derived.Test.YtbojgmhpmcnfjaaProg
import Derived.Test.YtbojgmhpmcnfjaaVAD
import Derived.KernelRfl
import Derived.Shelf.SlLaysF0
/- Part of the proofs over Ytbojgmhpmcnfjaa: MA, MB, MC, MD, ME, MF, MG, MH, GFacts, H1, HA, JL, JA, JB, JC. -/
set_option linter.unusedVariables false
set_option linter.unusedSimpArgs false
set_option linter.unnecessarySimpa false
/- Points of the plane with heights: the lower faces. Plain integers; no program in sight. -/
set_option linter.unusedVariables false
namespace Go.Pv.Geo.Cov
/-- Where the points are, and how high. -/
structure Cfg where
  n : Nat
  x : Nat → Int
  y : Nat → Int
  h : Nat → Int
variable (g : Cfg)
def Cfg.cr (i j k : Nat) : Int := (g.x j - g.x i) * (g.y k - g.y i) - (g.y j - g.y i) * (g.x k - g.x i)
/-- How far d is above the plane of a, b and c, times the cross product of these. -/
def Cfg.ab (a b c d : Nat) : Int := (g.h d - g.h a) * g.cr a b c - (g.h b - g.h a) * g.cr a d c - (g.h c - g.h a) * g.cr a b d
structure Cfg.OK : Prop where
  dist : ∀ i j, i < g.n → j < g.n → i ≠ j → ¬ (g.x i = g.x j ∧ g.y i = g.y j)
  gen : ∀ a b c d, a < g.n → b < g.n → c < g.n → d < g.n → d ≠ a → d ≠ b → d ≠ c → 0 < g.cr a b c → g.ab a b c d ≠ 0
  conv : ∀ v p q r, v < g.n → p < g.n → q < g.n → r < g.n → p ≠ v → q ≠ v → r ≠ v → ∀ k1 k2 k3 : Int, 0 ≤ k1 → 0 ≤ k2 → 0 ≤ k3 → 0 < k1 + k2 + k3 →
    k1 * (g.x p - g.x v) + k2 * (g.x q - g.x v) + k3 * (g.x r - g.x v) = 0 → k1 * (g.y p - g.y v) + k2 * (g.y q - g.y v) + k3 * (g.y r - g.y v) = 0 →
    0 < k1 * (g.h p - g.h v) + k2 * (g.h q - g.h v) + k3 * (g.h r - g.h v)
def Cfg.tri (a b c : Nat) : Prop := (a < g.n ∧ b < g.n ∧ c < g.n) ∧ 0 < g.cr a b c ∧ ∀ d, d < g.n → d ≠ a → d ≠ b → d ≠ c → 0 < g.ab a b c d
variable {g : Cfg}
theorem cr_rot (a b c : Nat) : g.cr b c a = g.cr a b c := by unfold Cfg.cr; grind
theorem cr_swap (a b c : Nat) : g.cr b a c = - g.cr a b c := by unfold Cfg.cr; grind
theorem cr_swap' (a b c : Nat) : g.cr a c b = - g.cr a b c := by unfold Cfg.cr; grind
theorem cr_aa (a c : Nat) : g.cr a a c = 0 := by unfold Cfg.cr; grind
theorem cr_ab (a b : Nat) : g.cr a b b = 0 := by unfold Cfg.cr; grind
theorem cr_aba (a b : Nat) : g.cr a b a = 0 := by unfold Cfg.cr; grind
theorem cr_sum (o a b c : Nat) : g.cr a b c = g.cr o a b + g.cr o b c + g.cr o c a := by unfold Cfg.cr; grind
theorem ab_rot (a b c d : Nat) : g.ab b c a d = g.ab a b c d := by unfold Cfg.ab Cfg.cr; grind
theorem ab_anti (a b c d : Nat) : g.ab a b d c = - g.ab a b c d := by unfold Cfg.ab Cfg.cr; grind
/-- The order of the planes through a and b. -/
theorem ab_trans (a b c d e : Nat) : g.cr a b d * g.ab a b c e = g.cr a b e * g.ab a b c d + g.cr a b c * g.ab a b d e := by unfold Cfg.ab Cfg.cr; grind
theorem ab_over (a b c d e : Nat) : g.cr a b c * g.ab b a d e = g.cr b a d * g.ab a b c e + g.cr a b e * g.ab a b c d := by unfold Cfg.ab Cfg.cr; grind
end Go.Pv.Geo.Cov

/- Edges of the lower faces: what is on their other side. -/
set_option linter.unusedVariables false
namespace Go.Pv.Geo.Cov
variable {g : Cfg}
theorem mul_pos_iff' {a b : Int} (ha : 0 < a) : 0 < a * b ↔ 0 < b := by
  constructor
  · intro h
    rcases Int.lt_or_le 0 b with h1 | h1
    · exact h1
    · have := Int.mul_nonpos_of_nonneg_of_nonpos (Int.le_of_lt ha) h1
      omega
  · exact fun h => Int.mul_pos ha h
/-- The least of finitely many, in an order that is total and transitive on them. -/
theorem least_ex {P : Nat → Prop} {R : Nat → Nat → Prop} (tot : ∀ c d, P c → P d → c ≠ d → R c d ∨ R d c) (tr : ∀ c d e, P c → P d → P e → R c d → R d e → R c e) :
    ∀ n, (∃ c, c < n ∧ P c) → ∃ c, c < n ∧ P c ∧ ∀ d, d < n → P d → d ≠ c → R c d
  | 0, h => by obtain ⟨c, h, _⟩ := h; omega
  | n + 1, h => by
    by_cases hn : ∃ c, c < n ∧ P c
    · obtain ⟨c, h1, h2, h3⟩ := least_ex tot tr n hn
      by_cases hP : P n
      · rcases tot c n h2 hP (by omega) with h4 | h4
        · refine ⟨c, by omega, h2, fun d hd hPd hne => ?_⟩
          by_cases e : d = n
          · subst e; exact h4
          · exact h3 d (by omega) hPd hne
        · refine ⟨n, by omega, hP, fun d hd hPd hne => ?_⟩
          by_cases e : d = c
          · subst e; exact h4
          · exact tr n c d hP h2 hPd h4 (h3 d (by omega) hPd e)
      · refine ⟨c, by omega, h2, fun d hd hPd hne => h3 d ?_ hPd hne⟩
        have : d ≠ n := fun e => hP (e ▸ hPd)
        omega
    · obtain ⟨c, h1, h2⟩ := h
      have hc : c = n := by
        rcases Nat.lt_or_ge c n with h | h
        · exact absurd ⟨c, h, h2⟩ hn
        · omega
      subst hc
      refine ⟨c, by omega, h2, fun d hd hPd hne => ?_⟩
      exact absurd ⟨d, by omega, hPd⟩ hn
/-- Left of an edge, the point with the lowest plane. -/
theorem low_left (ok : g.OK) {a b : Nat} (ha : a < g.n) (hb : b < g.n) (h : ∃ c, c < g.n ∧ 0 < g.cr a b c) :
    ∃ c, c < g.n ∧ 0 < g.cr a b c ∧ ∀ d, d < g.n → 0 < g.cr a b d → d ≠ c → 0 < g.ab a b c d := by
  have ne : ∀ c, 0 < g.cr a b c → c ≠ a ∧ c ≠ b := fun c hc => ⟨fun e => by subst e; rw [cr_aba] at hc; omega, fun e => by subst e; rw [cr_ab] at hc; omega⟩
  obtain ⟨c, h1, h2, h3⟩ := least_ex (P := fun c => c < g.n ∧ 0 < g.cr a b c) (R := fun c d => 0 < g.ab a b c d) (fun c d hc hd hne => by
      have h1 := ok.gen a b c d ha hb hc.1 hd.1 (ne d hd.2).1 (ne d hd.2).2 (fun e => hne e.symm) hc.2
      have h2 := ab_anti (g := g) a b c d
      omega) (fun c d e hc hd he h1 h2 => by
      have h3 := ab_trans (g := g) a b c d e
      have h4 := Int.mul_pos he.2 h1
      have h5 := Int.mul_pos hc.2 h2
      exact (mul_pos_iff' hd.2).1 (by omega)) g.n (by obtain ⟨c, h1, h2⟩ := h; exact ⟨c, h1, h1, h2⟩)
  exact ⟨c, h1, h2.2, fun d hd hd' hne => h3 d hd ⟨hd, hd'⟩ hne⟩
/-- A point of the line of an edge, not between its ends, is above. -/
theorem line_up (ok : g.OK) {a b c e : Nat} (ha : a < g.n) (hb : b < g.n) (he : e < g.n) (hea : e ≠ a) (heb : e ≠ b) (hab : a ≠ b) (hc : 0 < g.cr a b c) (h0 : g.cr a b e = 0)
    (hbt : ¬ (0 < g.cr a e c ∧ g.cr a e c < g.cr a b c)) (hnz : g.cr a e c ≠ 0) (hnz' : g.cr a e c ≠ g.cr a b c) : 0 < g.ab a b c e := by
  have hx : g.cr a b c * (g.x e - g.x a) = g.cr a e c * (g.x b - g.x a) := by unfold Cfg.cr at *; grind
  have hy : g.cr a b c * (g.y e - g.y a) = g.cr a e c * (g.y b - g.y a) := by unfold Cfg.cr at *; grind
  have hs : g.ab a b c e = (g.h e - g.h a) * g.cr a b c - (g.h b - g.h a) * g.cr a e c - (g.h c - g.h a) * g.cr a b e := rfl
  rw [h0] at hs
  rcases Int.lt_or_le (g.cr a e c) 0 with h1 | h1
  · have := ok.conv a e b b ha he hb hb hea (fun h => hab h.symm) (fun h => hab h.symm) (g.cr a b c) (- g.cr a e c) 0 (by omega) (by omega) (by omega) (by omega) (by grind) (by grind)
    grind
  · have := ok.conv b a e e hb ha he he hab heb heb (g.cr a e c - g.cr a b c) (g.cr a b c) 0 (by omega) (by omega) (by omega) (by omega) (by grind) (by grind)
    grind
end Go.Pv.Geo.Cov

/- Each edge of a lower face is on the border, or has a lower face on its other side. -/
set_option linter.unusedVariables false
namespace Go.Pv.Geo.Cov
variable {g : Cfg}
theorem tri_rot {a b c : Nat} (h : g.tri a b c) : g.tri b c a := by
  obtain ⟨⟨h1, h2, h3⟩, h4, h5⟩ := h
  refine ⟨⟨h2, h3, h1⟩, by rw [cr_rot]; exact h4, fun d hd d1 d2 d3 => ?_⟩
  rw [ab_rot]
  exact h5 d hd d3 d1 d2
theorem tri_ne {a b c : Nat} (h : g.tri a b c) : a ≠ b ∧ b ≠ c ∧ a ≠ c := by
  have h4 := h.2.1
  refine ⟨fun e => ?_, fun e => ?_, fun e => ?_⟩ <;> subst e
  · rw [cr_aa] at h4; omega
  · rw [cr_ab] at h4; omega
  · rw [cr_aba] at h4; omega
theorem tri_uniq {a b c d : Nat} (h : g.tri a b c) (h' : g.tri a b d) : c = d := by
  refine Decidable.byContradiction fun hne => ?_
  have n1 := tri_ne h
  have n2 := tri_ne h'
  have h1 := h.2.2 d h'.1.2.2 (fun e => n2.2.2 e.symm) (fun e => n2.2.1 e.symm) (fun e => hne e.symm)
  have h2 := h'.2.2 c h.1.2.2 (fun e => n1.2.2 e.symm) (fun e => n1.2.1 e.symm) hne
  have := ab_anti (g := g) a b c d
  omega
/-- A point of a line is between two others. -/
def Cfg.btw (g : Cfg) (a b e : Nat) : Prop := 0 < (g.x e - g.x a) * (g.x b - g.x e) + (g.y e - g.y a) * (g.y b - g.y e)
/-- An edge of the border. -/
structure Cfg.bnd (g : Cfg) (a b : Nat) : Prop where
  ha : a < g.n
  hb : b < g.n
  ne : a ≠ b
  left : ∀ e, e < g.n → 0 ≤ g.cr a b e
  some : ∃ c, c < g.n ∧ 0 < g.cr a b c
  next : ∀ e, e < g.n → g.cr a b e = 0 → ¬ g.btw a b e
theorem sq_pos2 {u v : Int} (h : ¬ (u = 0 ∧ v = 0)) : 0 < u * u + v * v := by
  have h1 : 0 ≤ u * u := by rcases Int.le_total 0 u with h | h; exact Int.mul_nonneg h h; exact Int.mul_nonneg_of_nonpos_of_nonpos h h
  have h2 : 0 ≤ v * v := by rcases Int.le_total 0 v with h | h; exact Int.mul_nonneg h h; exact Int.mul_nonneg_of_nonpos_of_nonpos h h
  rcases Int.lt_or_le 0 (u * u + v * v) with h3 | h3
  · exact h3
  · exfalso
    have e1 : u * u = 0 := by omega
    have e2 : v * v = 0 := by omega
    exact h ⟨by rcases Int.mul_eq_zero.1 e1 with e | e <;> exact e, by rcases Int.mul_eq_zero.1 e2 with e | e <;> exact e⟩
/-- Where a point of the line of an edge is. -/
theorem line_at (ok : g.OK) {a b c e : Nat} (ha : a < g.n) (hb : b < g.n) (he : e < g.n) (hab : a ≠ b) (hc : 0 < g.cr a b c) (h0 : g.cr a b e = 0) :
    (g.btw a b e ↔ 0 < g.cr a e c ∧ g.cr a e c < g.cr a b c) ∧ (e ≠ a → g.cr a e c ≠ 0) ∧ (e ≠ b → g.cr a e c ≠ g.cr a b c) := by
  have hx : g.cr a b c * (g.x e - g.x a) = g.cr a e c * (g.x b - g.x a) := by unfold Cfg.cr at *; grind
  have hy : g.cr a b c * (g.y e - g.y a) = g.cr a e c * (g.y b - g.y a) := by unfold Cfg.cr at *; grind
  have hL : 0 < (g.x b - g.x a) * (g.x b - g.x a) + (g.y b - g.y a) * (g.y b - g.y a) := sq_pos2 fun h => ok.dist a b ha hb hab ⟨by omega, by omega⟩
  have hk : (g.cr a b c * g.cr a b c) * ((g.x e - g.x a) * (g.x b - g.x e) + (g.y e - g.y a) * (g.y b - g.y e)) = ((g.x b - g.x a) * (g.x b - g.x a) + (g.y b - g.y a) * (g.y b - g.y a)) * (g.cr a e c * (g.cr a b c - g.cr a e c)) := by grind
  have hcc := Int.mul_pos hc hc
  refine ⟨⟨fun h => ?_, fun h => ?_⟩, fun hne h => ?_, fun hne h => ?_⟩
  · have h1 := Int.mul_pos hcc h
    rw [hk] at h1
    have h2 := (mul_pos_iff' hL).1 h1
    rcases Int.lt_or_le 0 (g.cr a e c) with h3 | h3
    · exact ⟨h3, by have := (mul_pos_iff' h3).1 h2; omega⟩
    · exfalso
      have := Int.mul_nonpos_of_nonpos_of_nonneg h3 (show 0 ≤ g.cr a b c - g.cr a e c by omega)
      omega
  · have h1 := Int.mul_pos hL (Int.mul_pos h.1 (show 0 < g.cr a b c - g.cr a e c by omega))
    rw [← hk] at h1
    exact (mul_pos_iff' hcc).1 h1
  · rw [h, Int.zero_mul] at hx hy
    rcases Int.mul_eq_zero.1 hx with h1 | h1
    · omega
    · rcases Int.mul_eq_zero.1 hy with h2 | h2
      · omega
      · exact ok.dist e a he ha hne ⟨by omega, by omega⟩
  · rw [h] at hx hy
    have h1 := Int.eq_of_mul_eq_mul_left (by omega) hx
    have h2 := Int.eq_of_mul_eq_mul_left (by omega) hy
    exact ok.dist e b he hb hne ⟨by omega, by omega⟩
theorem bnd_tri (ok : g.OK) {a b : Nat} (h : g.bnd a b) : ∃ c, g.tri a b c := by
  obtain ⟨c, h1, h2, h3⟩ := low_left ok h.ha h.hb h.some
  refine ⟨c, ⟨h.ha, h.hb, h1⟩, h2, fun d hd d1 d2 d3 => ?_⟩
  have h4 := h.left d hd
  by_cases h5 : g.cr a b d = 0
  · have hl := line_at ok h.ha h.hb hd h.ne h2 h5
    exact line_up ok h.ha h.hb hd d1 d2 h.ne h2 h5 (fun hh => h.next d hd h5 (hl.1.2 hh)) (hl.2.1 d1) (hl.2.2 d2)
  · exact h3 d hd (by omega) d3
theorem tri_bnd (ok : g.OK) {a b c : Nat} (h : g.tri a b c) (hr : ∀ e, e < g.n → ¬ 0 < g.cr b a e) : g.bnd a b := by
  have hne := tri_ne h
  refine ⟨h.1.1, h.1.2.1, hne.1, fun e he => ?_, ⟨c, h.1.2.2, h.2.1⟩, fun e he h0 hb => ?_⟩
  · have := hr e he
    rw [cr_swap] at this
    omega
  · have hl := line_at ok h.1.1 h.1.2.1 he hne.1 h.2.1 h0
    have hs := hl.1.1 hb
    have ea : e ≠ a := fun e' => by subst e'; rw [cr_aa] at hs; omega
    have eb : e ≠ b := fun e' => by subst e'; omega
    have ec : e ≠ c := fun e' => by subst e'; rw [cr_ab] at hs; omega
    have h1 := h.2.2 e he ea eb ec
    have h2 : g.ab a b c e = (g.h e - g.h a) * g.cr a b c - (g.h b - g.h a) * g.cr a e c - (g.h c - g.h a) * g.cr a b e := rfl
    rw [h0] at h2
    have hx : g.cr a b c * (g.x e - g.x a) = g.cr a e c * (g.x b - g.x a) := by unfold Cfg.cr at *; grind
    have hy : g.cr a b c * (g.y e - g.y a) = g.cr a e c * (g.y b - g.y a) := by unfold Cfg.cr at *; grind
    have := ok.conv e a b b he h.1.1 h.1.2.1 h.1.2.1 (fun e' => ea e'.symm) (fun e' => eb e'.symm) (fun e' => eb e'.symm) (g.cr a b c - g.cr a e c) (g.cr a e c) 0 (by omega) (by omega) (by omega) (by omega) (by grind) (by grind)
    grind
theorem tri_opp (ok : g.OK) {a b c : Nat} (h : g.tri a b c) (hr : ∃ e, e < g.n ∧ 0 < g.cr b a e) : ∃ d, g.tri b a d := by
  obtain ⟨d, h1, h2, h3⟩ := low_left ok h.1.2.1 h.1.1 hr
  have hne := tri_ne h
  refine ⟨d, ⟨h.1.2.1, h.1.1, h1⟩, h2, fun e he e1 e2 e3 => ?_⟩
  by_cases h4 : 0 < g.cr b a e
  · exact h3 e he h4 e3
  · have h5 : 0 ≤ g.cr a b e := by rw [cr_swap] at h4; omega
    have da : d ≠ a := fun e' => by subst e'; rw [cr_ab] at h2; omega
    have db : d ≠ b := fun e' => by subst e'; rw [cr_aba] at h2; omega
    have dc : d ≠ c := fun e' => by
      subst e'
      rw [cr_swap] at h2
      have := h.2.1
      omega
    have hd := h.2.2 d h1 da db dc
    have ho := ab_over (g := g) a b c d e
    by_cases ec : e = c
    · subst ec
      have e0 : g.ab a b e e = 0 := by
        have := ab_anti (g := g) a b e e
        omega
      rw [e0, Int.mul_zero, Int.zero_add] at ho
      refine (mul_pos_iff' h.2.1).1 ?_
      rw [ho]
      exact Int.mul_pos h.2.1 hd
    · have he' := h.2.2 e he e2 e1 ec
      refine (mul_pos_iff' h.2.1).1 ?_
      rw [ho]
      have q1 := Int.mul_pos h2 he'
      have q2 := Int.mul_nonneg h5 (Int.le_of_lt hd)
      omega
end Go.Pv.Geo.Cov

/- Above each point, in a direction, there is one lower face at most, and one if there is anything. -/
set_option linter.unusedVariables false
namespace Go.Pv.Geo.Cov
variable {g : Cfg}
/-- A direction. -/
def Cfg.X (g : Cfg) (p q : Int) (i : Nat) : Int := p * g.x i + q * g.y i
theorem frac_min {P : Nat → Prop} {N C : Nat → Int} (hC : ∀ i, P i → 0 < C i) : ∀ n, (∃ i, i < n ∧ P i) → ∃ i, i < n ∧ P i ∧ ∀ j, j < n → P j → N i * C j ≤ N j * C i
  | 0, h => by obtain ⟨c, h, _⟩ := h; omega
  | n + 1, h => by
    by_cases hn : ∃ c, c < n ∧ P c
    · obtain ⟨c, h1, h2, h3⟩ := frac_min (N := N) hC n hn
      by_cases hP : P n
      · rcases Int.lt_or_le (N n * C c) (N c * C n) with h4 | h4
        · refine ⟨n, by omega, hP, fun d hd hPd => ?_⟩
          by_cases e : d = n
          · subst e; exact Int.le_refl _
          · have h5 := h3 d (by omega) hPd
            have h6 := Int.mul_le_mul_of_nonneg_right h5 (Int.le_of_lt (hC n hP))
            have h7 := Int.mul_lt_mul_of_pos_right h4 (hC d hPd)
            refine Int.le_of_mul_le_mul_right (a := C c) ?_ (hC c h2)
            have e1 : N c * C d * C n = N c * C n * C d := by grind
            have e2 : N n * C d * C c = N n * C c * C d := by grind
            have e3 : N d * C n * C c = N d * C c * C n := by grind
            omega
        · refine ⟨c, by omega, h2, fun d hd hPd => ?_⟩
          by_cases e : d = n
          · subst e; exact h4
          · exact h3 d (by omega) hPd
      · refine ⟨c, by omega, h2, fun d hd hPd => h3 d ?_ hPd⟩
        have : d ≠ n := fun e => hP (e ▸ hPd)
        omega
    · obtain ⟨c, h1, h2⟩ := h
      have hc : c = n := by
        rcases Nat.lt_or_ge c n with h | h
        · exact absurd ⟨c, h, h2⟩ hn
        · omega
      subst hc
      refine ⟨c, by omega, h2, fun d hd hPd => ?_⟩
      by_cases e : d = c
      · subst e; exact Int.le_refl _
      · exact absurd ⟨d, by omega, hPd⟩ hn
variable {p q : Int}
def Cfg.N (g : Cfg) (p q : Int) (v r l : Nat) : Int := (g.X p q v - g.X p q l) * (g.h r - g.h v) + (g.X p q r - g.X p q v) * (g.h l - g.h v)
theorem N_right (v r l e : Nat) : g.N p q v e l * g.cr v r l - g.N p q v r l * g.cr v e l = (g.X p q v - g.X p q l) * g.ab v r l e := by unfold Cfg.N Cfg.X Cfg.ab Cfg.cr; grind
theorem N_left (v r l e : Nat) : g.N p q v r e * g.cr v r l - g.N p q v r l * g.cr v r e = (g.X p q r - g.X p q v) * g.ab v r l e := by unfold Cfg.N Cfg.X Cfg.ab Cfg.cr; grind
theorem N_both (v r l r' l' : Nat) : g.N p q v r' l' * g.cr v r l - g.N p q v r l * g.cr v r' l' = (g.X p q v - g.X p q l') * g.ab v r l r' + (g.X p q r' - g.X p q v) * g.ab v r l l' := by unfold Cfg.N Cfg.X Cfg.ab Cfg.cr; grind
theorem cr_X (v r l e : Nat) : g.cr v r l * (g.X p q e - g.X p q v) + g.cr v l e * (g.X p q r - g.X p q v) + g.cr v e r * (g.X p q l - g.X p q v) = 0 := by unfold Cfg.X Cfg.cr; grind
theorem cr_x (v r l e : Nat) : g.cr v r l * (g.x e - g.x v) + g.cr v l e * (g.x r - g.x v) + g.cr v e r * (g.x l - g.x v) = 0 := by unfold Cfg.cr; grind
theorem cr_y (v r l e : Nat) : g.cr v r l * (g.y e - g.y v) + g.cr v l e * (g.y r - g.y v) + g.cr v e r * (g.y l - g.y v) = 0 := by unfold Cfg.cr; grind
theorem ab_conv (v r l e : Nat) : g.ab v r l e = g.cr v r l * (g.h e - g.h v) + g.cr v l e * (g.h r - g.h v) + g.cr v e r * (g.h l - g.h v) := by unfold Cfg.ab Cfg.cr; grind
theorem ab_self2 (a b c : Nat) : g.ab a b c b = 0 := by unfold Cfg.ab Cfg.cr; grind
theorem ab_self3 (a b c : Nat) : g.ab a b c c = 0 := by unfold Cfg.ab Cfg.cr; grind
/-- A pair of points on both sides of a direction, above v. -/
structure Cfg.pair (g : Cfg) (p q : Int) (v r l : Nat) : Prop where
  hr : r < g.n
  hl : l < g.n
  xl : g.X p q l < g.X p q v
  xr : g.X p q v < g.X p q r
  up : 0 < g.cr v r l
theorem pair_tri (ok : g.OK) (inj : ∀ i j, i < g.n → j < g.n → i ≠ j → g.X p q i ≠ g.X p q j) {v : Nat} (hv : v < g.n) (h : ∃ r l, g.pair p q v r l) : ∃ r l, g.tri v r l ∧ g.pair p q v r l := by
  have hn : 0 < g.n := by omega
  obtain ⟨i, hi, hP, hmin⟩ := frac_min (P := fun i => g.pair p q v (i / g.n) (i % g.n)) (N := fun i => g.N p q v (i / g.n) (i % g.n)) (C := fun i => g.cr v (i / g.n) (i % g.n)) (fun i hi => hi.up) (g.n * g.n) (by
    obtain ⟨r, l, h⟩ := h
    have h1 : (r * g.n + l) / g.n = r := by
      rw [Nat.mul_comm, Nat.mul_add_div hn, Nat.div_eq_of_lt h.hl]
      rfl
    have h2 : (r * g.n + l) % g.n = l := by rw [Nat.mul_comm, Nat.mul_add_mod, Nat.mod_eq_of_lt h.hl]
    refine ⟨r * g.n + l, ?_, by rw [h1, h2]; exact h⟩
    have := Nat.mul_le_mul_right g.n (show r + 1 ≤ g.n from h.hr)
    rw [Nat.add_mul] at this
    have := h.hl
    omega)
  have hmin' : ∀ r l, g.pair p q v r l → g.N p q v (i / g.n) (i % g.n) * g.cr v r l ≤ g.N p q v r l * g.cr v (i / g.n) (i % g.n) := fun r l h => by
    have h1 : (r * g.n + l) / g.n = r := by
      rw [Nat.mul_comm, Nat.mul_add_div hn, Nat.div_eq_of_lt h.hl]
      rfl
    have h2 : (r * g.n + l) % g.n = l := by rw [Nat.mul_comm, Nat.mul_add_mod, Nat.mod_eq_of_lt h.hl]
    have := hmin (r * g.n + l) (by
      have := Nat.mul_le_mul_right g.n (show r + 1 ≤ g.n from h.hr)
      rw [Nat.add_mul] at this
      have := h.hl
      omega) (by rw [h1, h2]; exact h)
    simp only [h1, h2] at this
    exact this
  generalize i / g.n = r at *
  generalize i % g.n = l at *
  refine ⟨r, l, ⟨⟨hv, hP.hr, hP.hl⟩, hP.up, fun e he e1 e2 e3 => ?_⟩, hP⟩
  have hg := ok.gen v r l e hv hP.hr hP.hl he e1 e2 e3 hP.up
  refine Decidable.byContradiction fun hneg => ?_
  have hneg : g.ab v r l e < 0 := by omega
  have hxe := inj e v he hv e1
  have k := cr_X (g := g) (p := p) (q := q) v r l e
  have kx := cr_x (g := g) v r l e
  have ky := cr_y (g := g) v r l e
  have ke := ab_conv (g := g) v r l e
  have xl := hP.xl
  have xr := hP.xr
  have up := hP.up
  rcases Int.lt_or_le (g.X p q v) (g.X p q e) with hx | hx
  · rcases Int.lt_or_le 0 (g.cr v e l) with hc | hc
    · have h1 := hmin' e l ⟨he, hP.hl, xl, hx, hc⟩
      have h2 := N_right (g := g) (p := p) (q := q) v r l e
      have h3 := Int.mul_neg_of_pos_of_neg (show 0 < g.X p q v - g.X p q l by omega) hneg
      omega
    · have k1 : 0 ≤ g.cr v l e := by rw [cr_swap']; omega
      have k2 : 0 < g.cr v e r := by
        have q1 := Int.mul_pos up (show 0 < g.X p q e - g.X p q v by omega)
        have q2 := Int.mul_nonneg k1 (show 0 ≤ g.X p q r - g.X p q v by omega)
        refine Decidable.byContradiction fun hh => ?_
        have q3 := Int.mul_nonneg_of_nonpos_of_nonpos (show g.cr v e r ≤ 0 by omega) (show g.X p q l - g.X p q v ≤ 0 by omega)
        omega
      have := ok.conv v e r l hv he hP.hr hP.hl e1 (fun e => by subst e; omega) (fun e => by subst e; omega) (g.cr v r l) (g.cr v l e) (g.cr v e r) (by omega) k1 (by omega) (by omega) kx ky
      omega
  · have hx : g.X p q e < g.X p q v := by omega
    rcases Int.lt_or_le 0 (g.cr v r e) with hc | hc
    · have h1 := hmin' r e ⟨hP.hr, he, hx, xr, hc⟩
      have h2 := N_left (g := g) (p := p) (q := q) v r l e
      have h3 := Int.mul_neg_of_pos_of_neg (show 0 < g.X p q r - g.X p q v by omega) hneg
      omega
    · have k1 : 0 ≤ g.cr v e r := by rw [cr_swap']; omega
      have k2 : 0 < g.cr v l e := by
        have q1 := Int.mul_neg_of_pos_of_neg up (show g.X p q e - g.X p q v < 0 by omega)
        have q2 := Int.mul_nonpos_of_nonneg_of_nonpos k1 (show g.X p q l - g.X p q v ≤ 0 by omega)
        refine Decidable.byContradiction fun hh => ?_
        have q3 := Int.mul_nonpos_of_nonpos_of_nonneg (show g.cr v l e ≤ 0 by omega) (show 0 ≤ g.X p q r - g.X p q v by omega)
        omega
      have := ok.conv v e r l hv he hP.hr hP.hl e1 (fun e => by subst e; omega) (fun e => by subst e; omega) (g.cr v r l) (g.cr v l e) (g.cr v e r) (by omega) (by omega) (by omega) (by omega) kx ky
      omega
theorem pair_uniq {v r l r' l' : Nat} (h : g.tri v r l) (hp : g.pair p q v r l) (h' : g.tri v r' l') (hp' : g.pair p q v r' l') : r = r' ∧ l = l' := by
  have nn : ∀ {r l r' l' : Nat}, g.tri v r l → g.pair p q v r l → g.pair p q v r' l' → 0 ≤ g.ab v r l r' ∧ 0 ≤ g.ab v r l l' ∧ (r ≠ r' → 0 < g.ab v r l r') ∧ (l ≠ l' → 0 < g.ab v r l l') := fun {r l r' l'} h hp hp' => by
    have a1 := hp.xl; have a2 := hp.xr; have b1 := hp'.xl; have b2 := hp'.xr
    have p1 : r ≠ r' → 0 < g.ab v r l r' := fun hne => h.2.2 r' hp'.hr (fun e => by subst e; omega) (fun e => hne e.symm) (fun e => by subst e; omega)
    have p2 : l ≠ l' → 0 < g.ab v r l l' := fun hne => h.2.2 l' hp'.hl (fun e => by subst e; omega) (fun e => by subst e; omega) (fun e => hne e.symm)
    refine ⟨?_, ?_, p1, p2⟩
    · by_cases e : r = r'
      · subst e; rw [ab_self2]; omega
      · have := p1 e; omega
    · by_cases e : l = l'
      · subst e; rw [ab_self3]; omega
      · have := p2 e; omega
  have n1 := nn h hp hp'
  have n2 := nn h' hp' hp
  have e1 := N_both (g := g) (p := p) (q := q) v r l r' l'
  have e2 := N_both (g := g) (p := p) (q := q) v r' l' r l
  have x1 := hp.xl; have x2 := hp.xr; have x3 := hp'.xl; have x4 := hp'.xr
  have m1 := Int.mul_nonneg (show 0 ≤ g.X p q v - g.X p q l' by omega) n1.1
  have m2 := Int.mul_nonneg (show 0 ≤ g.X p q r' - g.X p q v by omega) n1.2.1
  have m3 := Int.mul_nonneg (show 0 ≤ g.X p q v - g.X p q l by omega) n2.1
  have m4 := Int.mul_nonneg (show 0 ≤ g.X p q r - g.X p q v by omega) n2.2.1
  constructor
  · refine Decidable.byContradiction fun hne => ?_
    have := Int.mul_pos (show 0 < g.X p q v - g.X p q l' by omega) (n1.2.2.1 hne)
    omega
  · refine Decidable.byContradiction fun hne => ?_
    have := Int.mul_pos (show 0 < g.X p q r' - g.X p q v by omega) (n1.2.2.2 hne)
    omega
end Go.Pv.Geo.Cov

/- Sums over the lower faces: areas, and how many there are. -/
set_option linter.unusedVariables false
namespace Go.Pv.Geo.Cov
open Classical
/-- A sum of the first n. -/
def S (n : Nat) (f : Nat → Int) : Int := match n with
  | 0 => 0
  | n + 1 => S n f + f n
theorem S_congr {f f' : Nat → Int} : ∀ n, (∀ k, k < n → f k = f' k) → S n f = S n f'
  | 0, _ => rfl
  | n + 1, h => by
    show S n f + f n = S n f' + f' n
    rw [S_congr n fun k hk => h k (by omega), h n (by omega)]
theorem S_add (f f' : Nat → Int) : ∀ n, S n (fun k => f k + f' k) = S n f + S n f'
  | 0 => rfl
  | n + 1 => by
    show S n (fun k => f k + f' k) + (f n + f' n) = S n f + f n + (S n f' + f' n)
    rw [S_add f f' n]
    omega
theorem S_mul (c : Int) (f : Nat → Int) : ∀ n, S n (fun k => c * f k) = c * S n f
  | 0 => by simp [S]
  | n + 1 => by
    show S n (fun k => c * f k) + c * f n = c * (S n f + f n)
    rw [S_mul c f n, Int.mul_add]
theorem S_mul' (c : Int) (f : Nat → Int) (n : Nat) : S n (fun k => f k * c) = S n f * c := by
  rw [Int.mul_comm, ← S_mul]
  exact S_congr _ fun k _ => Int.mul_comm _ _
theorem S_zero {f : Nat → Int} (n : Nat) (h : ∀ k, k < n → f k = 0) : S n f = 0 := by
  induction n with
  | zero => rfl
  | succ n ih =>
    show S n f + f n = 0
    rw [ih fun k hk => h k (by omega), h n (by omega)]
    rfl
theorem S_swap (f : Nat → Nat → Int) (m : Nat) : ∀ n, S n (fun i => S m (fun j => f i j)) = S m (fun j => S n (fun i => f i j))
  | 0 => by
    show (0 : Int) = _
    exact (S_zero m fun _ _ => rfl).symm
  | n + 1 => by
    show S n (fun i => S m (fun j => f i j)) + S m (fun j => f n j) = S m (fun j => S n (fun i => f i j) + f n j)
    rw [S_add, S_swap f m n]
theorem S_one {P : Nat → Prop} [DecidablePred P] {n a : Nat} (ha : a < n) (h : P a) (hu : ∀ b, b < n → P b → b = a) (w : Nat → Int) : S n (fun k => if P k then w k else 0) = w a := by
  induction n with
  | zero => omega
  | succ n ih =>
    show S n (fun k => if P k then w k else 0) + (if P n then w n else 0) = w a
    by_cases e : a = n
    · subst e
      rw [if_pos h, S_zero a fun k hk => if_neg fun hp => by have := hu k (by omega) hp; omega]
      omega
    · rw [ih (by omega) fun b hb hp => hu b (by omega) hp, if_neg fun hp => e (hu n (by omega) hp).symm]
      omega
variable (g : Cfg)
noncomputable def Cfg.t (i j k : Nat) : Int := if g.tri i j k then 1 else 0
noncomputable def Cfg.e (i j : Nat) : Int := if ∃ k, g.tri i j k then 1 else 0
noncomputable def Cfg.b (i j : Nat) : Int := if g.bnd i j then 1 else 0
variable {g}
theorem t_rot (i j k : Nat) : g.t j k i = g.t i j k := by
  unfold Cfg.t
  by_cases h : g.tri i j k
  · rw [if_pos h, if_pos (tri_rot h)]
  · rw [if_neg h, if_neg fun h' => h (tri_rot (tri_rot h'))]
theorem t_e (i j : Nat) : S g.n (fun k => g.t i j k) = g.e i j := by
  unfold Cfg.e
  by_cases h : ∃ k, g.tri i j k
  · rw [if_pos h]
    obtain ⟨k, hk⟩ := h
    exact S_one (w := fun _ => 1) hk.1.2.2 hk fun b _ hb => tri_uniq hb hk
  · rw [if_neg h]
    exact S_zero _ fun k _ => if_neg fun hk => h ⟨k, hk⟩
/-- The sum over all triples, three times each face. -/
noncomputable def Cfg.T3 (g : Cfg) (w : Nat → Nat → Nat → Int) : Int := S g.n fun i => S g.n fun j => S g.n fun k => g.t i j k * w i j k
theorem T3_congr {w w' : Nat → Nat → Nat → Int} (h : ∀ i j k, g.tri i j k → w i j k = w' i j k) : g.T3 w = g.T3 w' := by
  refine S_congr _ fun i _ => S_congr _ fun j _ => S_congr _ fun k _ => ?_
  unfold Cfg.t
  by_cases ht : g.tri i j k
  · rw [h i j k ht]
  · rw [if_neg ht, Int.zero_mul, Int.zero_mul]
theorem T3_add (w w' : Nat → Nat → Nat → Int) : g.T3 (fun i j k => w i j k + w' i j k) = g.T3 w + g.T3 w' := by
  unfold Cfg.T3
  rw [← S_add]
  refine S_congr _ fun i _ => ?_
  rw [← S_add]
  refine S_congr _ fun j _ => ?_
  rw [← S_add]
  exact S_congr _ fun k _ => Int.mul_add _ _ _
theorem T3_rot (w : Nat → Nat → Nat → Int) : g.T3 (fun i j k => w j k i) = g.T3 w := by
  unfold Cfg.T3
  rw [S_swap (fun i j => S g.n fun k => g.t i j k * w j k i)]
  refine S_congr _ fun j _ => ?_
  rw [S_swap (fun i k => g.t i j k * w j k i)]
  refine S_congr _ fun k _ => ?_
  refine S_congr _ fun i _ => ?_
  rw [t_rot i j k]
/-- Each edge is on the border, or counts on both sides. -/
theorem eb_sym (ok : g.OK) (i j : Nat) : g.e i j - g.b i j = g.e j i - g.b j i := by
  have bn : ∀ {i j : Nat}, g.bnd i j → (∃ k, g.tri i j k) ∧ ¬ (∃ k, g.tri j i k) ∧ ¬ g.bnd j i := fun {i j} h => by
    refine ⟨bnd_tri ok h, ?_, ?_⟩
    · rintro ⟨k, hk⟩
      have h1 := h.left k hk.1.2.2
      have h2 := hk.2.1
      rw [cr_swap] at h2
      omega
    · intro h'
      obtain ⟨c, hc, hc'⟩ := h'.some
      have h1 := h.left c hc
      rw [cr_swap] at hc'
      omega
  have en : ∀ {i j : Nat}, (∃ k, g.tri i j k) → ¬ g.bnd i j → (∃ k, g.tri j i k) ∧ ¬ g.bnd j i := fun {i j} h hb => by
    obtain ⟨k, hk⟩ := h
    refine ⟨?_, fun h' => ?_⟩
    · by_cases hr : ∃ e, e < g.n ∧ 0 < g.cr j i e
      · exact tri_opp ok hk hr
      · exact absurd (tri_bnd ok hk fun e he hh => hr ⟨e, he, hh⟩) hb
    · have h1 := h'.left k hk.1.2.2
      have h2 := hk.2.1
      rw [cr_swap] at h1
      omega
  unfold Cfg.e Cfg.b
  by_cases b1 : g.bnd i j
  · obtain ⟨q1, q2, q3⟩ := bn b1
    rw [if_pos q1, if_pos b1, if_neg q2, if_neg q3]
    rfl
  · by_cases b2 : g.bnd j i
    · obtain ⟨q1, q2, q3⟩ := bn b2
      rw [if_neg q2, if_neg b1, if_pos q1, if_pos b2]
      rfl
    · by_cases e1 : ∃ k, g.tri i j k
      · rw [if_pos e1, if_neg b1, if_pos (en e1 b1).1, if_neg b2]
      · rw [if_neg e1, if_neg b1, if_neg (fun e2 => e1 (en e2 b2).1), if_neg b2]
/-- What the faces measure is measured along the border. -/
theorem T3_border (ok : g.OK) (w : Nat → Nat → Int) (hw : ∀ i j, w j i = - w i j) : g.T3 (fun i j k => w i j + w j k + w k i) = 3 * S g.n (fun i => S g.n fun j => g.b i j * w i j) := by
  have h0 : S g.n (fun i => S g.n fun j => (g.e i j - g.b i j) * w i j) = 0 := by
    have h1 := S_swap (fun i j => (g.e i j - g.b i j) * w i j) g.n g.n
    have h2 : S g.n (fun j => S g.n fun i => (g.e i j - g.b i j) * w i j) = -1 * S g.n (fun j => S g.n fun i => (g.e j i - g.b j i) * w j i) := by
      rw [← S_mul]
      refine S_congr _ fun j _ => ?_
      rw [← S_mul]
      refine S_congr _ fun i _ => ?_
      rw [eb_sym ok i j, hw j i]
      grind
    omega
  have h1 : g.T3 (fun i j k => w i j) = S g.n (fun i => S g.n fun j => g.b i j * w i j) := by
    have h2 : g.T3 (fun i j k => w i j) = S g.n (fun i => S g.n fun j => g.e i j * w i j) := by
      refine S_congr _ fun i _ => S_congr _ fun j _ => ?_
      rw [S_mul', t_e]
    rw [h2]
    have h3 : S g.n (fun i => S g.n fun j => g.e i j * w i j) = S g.n (fun i => S g.n fun j => (g.e i j - g.b i j) * w i j) + S g.n (fun i => S g.n fun j => g.b i j * w i j) := by
      rw [← S_add]
      refine S_congr _ fun i _ => ?_
      rw [← S_add]
      refine S_congr _ fun j _ => ?_
      grind
    omega
  have h2 : g.T3 (fun i j k => w j k) = g.T3 (fun i j k => w i j) := T3_rot (fun i j k => w i j)
  have h3 : g.T3 (fun i j k => w k i) = g.T3 (fun i j k => w i j) := by
    have h4 := T3_rot (g := g) (fun i j k => w j k)
    rw [h2] at h4
    exact h4
  rw [show g.T3 (fun i j k => w i j + w j k + w k i) = g.T3 (fun i j k => w i j + w j k) + g.T3 (fun i j k => w k i) from T3_add _ _, T3_add, h2, h3, h1]
  omega
/-- The faces, each one once: the first number is the least one. -/
noncomputable def Cfg.T1 (g : Cfg) (w : Nat → Nat → Nat → Int) : Int := S g.n fun i => S g.n fun j => S g.n fun k => if i < j ∧ i < k then g.t i j k * w i j k else 0
theorem T1_T3 (w : Nat → Nat → Nat → Int) (hw : ∀ i j k, w j k i = w i j k) : 3 * g.T1 w = g.T3 w := by
  let f : Nat → Nat → Nat → Int := fun i j k => if i < j ∧ i < k then w i j k else 0
  have h1 : g.T1 w = g.T3 f := by
    refine S_congr _ fun i _ => S_congr _ fun j _ => S_congr _ fun k _ => ?_
    show _ = g.t i j k * (if i < j ∧ i < k then w i j k else 0)
    by_cases h : i < j ∧ i < k
    · rw [if_pos h, if_pos h]
    · rw [if_neg h, if_neg h, Int.mul_zero]
  have h2 := T3_rot (g := g) f
  have h3 := T3_rot (g := g) (fun i j k => f j k i)
  have h4 : g.T3 w = g.T3 (fun i j k => (f i j k + f j k i) + f k i j) := T3_congr fun i j k ht => by
    obtain ⟨n1, n2, n3⟩ := tri_ne ht
    show w i j k = ((if i < j ∧ i < k then w i j k else 0) + (if j < k ∧ j < i then w j k i else 0)) + (if k < i ∧ k < j then w k i j else 0)
    have e1 := hw i j k
    have e2 := hw j k i
    (repeat' split) <;> omega
  rw [h4, T3_add, T3_add]
  have h3' : g.T3 (fun i j k => f k i j) = g.T3 (fun i j k => f j k i) := h3
  omega
end Go.Pv.Geo.Cov

/- The border of the faces, along the corners of the hull. -/
set_option linter.unusedVariables false
namespace Go.Pv.Geo.Cov
open Classical
structure Cfg.Hull (g : Cfg) (m : Nat) (H : Nat → Nat) : Prop where
  m3 : 3 ≤ m
  per : ∀ i, H (i + m) = H i
  idx : ∀ i, H i < g.n
  inj : ∀ i j, i < m → j < m → H i = H j → i = j
  left : ∀ i e, e < g.n → 0 ≤ g.cr (H i) (H (i + 1)) e
  strict : ∀ i j, H j ≠ H i → H j ≠ H (i + 1) → 0 < g.cr (H i) (H (i + 1)) (H j)
  seg : ∀ i e, e < g.n → g.cr (H i) (H (i + 1)) e = 0 → e = H i ∨ e = H (i + 1) ∨ g.btw (H i) (H (i + 1)) e
variable {g : Cfg} {m : Nat} {H : Nat → Nat}
/-- How far along an edge. -/
def Cfg.s (g : Cfg) (a b e : Nat) : Int := (g.x e - g.x a) * (g.x b - g.x a) + (g.y e - g.y a) * (g.y b - g.y a)
def Cfg.q (g : Cfg) (a b : Nat) : Int := (g.x b - g.x a) * (g.x b - g.x a) + (g.y b - g.y a) * (g.y b - g.y a)
section
variable {a b i j e : Nat}
theorem q_pos (ok : g.OK) (ha : a < g.n) (hb : b < g.n) (hne : a ≠ b) : 0 < g.q a b := sq_pos2 fun h => ok.dist a b ha hb hne ⟨by omega, by omega⟩
theorem line_cr (hi : g.cr a b i = 0) (hj : g.cr a b j = 0) (e : Nat) : g.cr i j e * g.q a b = (g.s a b j - g.s a b i) * g.cr a b e := by unfold Cfg.cr Cfg.q Cfg.s at *; grind
theorem line_x (hi : g.cr a b i = 0) (hj : g.cr a b j = 0) : g.q a b * (g.x j - g.x i) = (g.s a b j - g.s a b i) * (g.x b - g.x a) ∧ g.q a b * (g.y j - g.y i) = (g.s a b j - g.s a b i) * (g.y b - g.y a) := by unfold Cfg.cr Cfg.q Cfg.s at *; constructor <;> grind
theorem line_btw (hi : g.cr a b i = 0) (hj : g.cr a b j = 0) (he : g.cr a b e = 0) : g.q a b * ((g.x e - g.x i) * (g.x j - g.x e) + (g.y e - g.y i) * (g.y j - g.y e)) = (g.s a b e - g.s a b i) * (g.s a b j - g.s a b e) := by
  have h1 := line_x hi he
  have h2 := line_x he hj
  unfold Cfg.cr Cfg.q Cfg.s at *
  grind
theorem s_ne (ok : g.OK) (ha : a < g.n) (hb : b < g.n) (hab : a ≠ b) (hi' : i < g.n) (hj' : j < g.n) (hi : g.cr a b i = 0) (hj : g.cr a b j = 0) (hne : i ≠ j) : g.s a b i ≠ g.s a b j := fun h => by
  have hq := q_pos ok ha hb hab
  have hx := line_x hi hj
  rw [h, Int.sub_self, Int.zero_mul, Int.zero_mul] at hx
  refine ok.dist i j hi' hj' hne ⟨?_, ?_⟩
  · rcases Int.mul_eq_zero.1 hx.1 with h1 | h1 <;> omega
  · rcases Int.mul_eq_zero.1 hx.2 with h1 | h1 <;> omega
theorem s_a : g.s a b a = 0 := by unfold Cfg.s; grind
theorem s_b : g.s a b b = g.q a b := by unfold Cfg.s Cfg.q; grind
theorem btw_s (ok : g.OK) (ha : a < g.n) (hb : b < g.n) (hab : a ≠ b) (hi : g.cr a b i = 0) (hj : g.cr a b j = 0) (he : g.cr a b e = 0) (hij : g.s a b i < g.s a b j) : g.btw i j e ↔ g.s a b i < g.s a b e ∧ g.s a b e < g.s a b j := by
  have hq := q_pos ok ha hb hab
  have hk := line_btw hi hj he
  constructor
  · intro h
    have h1 := Int.mul_pos hq h
    rw [hk] at h1
    rcases Int.lt_or_le 0 (g.s a b e - g.s a b i) with h2 | h2
    · have := (mul_pos_iff' h2).1 h1
      omega
    · exfalso
      have := Int.mul_nonpos_of_nonpos_of_nonneg h2 (show 0 ≤ g.s a b j - g.s a b e by omega)
      omega
  · intro h
    have h1 := Int.mul_pos (show 0 < g.s a b e - g.s a b i by omega) (show 0 < g.s a b j - g.s a b e by omega)
    rw [← hk] at h1
    exact (mul_pos_iff' hq).1 h1
/-- The border's edges on a line that has all points on its left. -/
theorem bnd_s (ok : g.OK) (ha : a < g.n) (hb : b < g.n) (hab : a ≠ b) (hl : ∀ e, e < g.n → 0 ≤ g.cr a b e) (hs : ∃ c, c < g.n ∧ 0 < g.cr a b c) (hi' : i < g.n) (hj' : j < g.n) (hi : g.cr a b i = 0) (hj : g.cr a b j = 0) :
    g.bnd i j ↔ g.s a b i < g.s a b j ∧ ∀ e, e < g.n → g.cr a b e = 0 → ¬ (g.s a b i < g.s a b e ∧ g.s a b e < g.s a b j) := by
  have hq := q_pos ok ha hb hab
  constructor
  · intro h
    have h1 : g.s a b i < g.s a b j := by
      obtain ⟨c, hc, hc'⟩ := h.some
      have hk := line_cr hi hj c
      have h2 := Int.mul_pos hc' hq
      rw [hk] at h2
      refine Decidable.byContradiction fun hh => ?_
      have := Int.mul_nonpos_of_nonpos_of_nonneg (show g.s a b j - g.s a b i ≤ 0 by omega) (hl c hc)
      omega
    refine ⟨h1, fun e he h0 hh => ?_⟩
    refine h.next e he ?_ ((btw_s ok ha hb hab hi hj h0 h1).2 hh)
    have hk := line_cr hi hj e
    rw [h0, Int.mul_zero] at hk
    rcases Int.mul_eq_zero.1 hk with h2 | h2
    · exact h2
    · omega
  · rintro ⟨h1, h2⟩
    refine ⟨hi', hj', fun e => by subst e; omega, fun e he => ?_, ?_, fun e he h0 hb' => ?_⟩
    · have hk := line_cr hi hj e
      have h3 := Int.mul_nonneg (show 0 ≤ g.s a b j - g.s a b i by omega) (hl e he)
      rw [← hk] at h3
      refine Decidable.byContradiction fun hh => ?_
      have := Int.mul_neg_of_neg_of_pos (show g.cr i j e < 0 by omega) hq
      omega
    · obtain ⟨c, hc, hc'⟩ := hs
      refine ⟨c, hc, ?_⟩
      have hk := line_cr hi hj c
      have h3 := Int.mul_pos (show 0 < g.s a b j - g.s a b i by omega) hc'
      rw [← hk, Int.mul_comm] at h3
      exact (mul_pos_iff' hq).1 h3
    · have hk := line_cr hi hj e
      rw [h0, Int.zero_mul] at hk
      have he0 : g.cr a b e = 0 := by
        rcases Int.mul_eq_zero.1 hk.symm with h3 | h3
        · omega
        · exact h3
      exact h2 e he he0 ((btw_s ok ha hb hab hi hj he0 h1).1 hb')
/-- Along an edge of the hull the border goes from its first corner to its second one. -/
theorem edge_sum (ok : g.OK) (ha : a < g.n) (hb : b < g.n) (hab : a ≠ b) (hl : ∀ e, e < g.n → 0 ≤ g.cr a b e) (hs : ∃ c, c < g.n ∧ 0 < g.cr a b c) (hseg : ∀ e, e < g.n → g.cr a b e = 0 → 0 ≤ g.s a b e ∧ g.s a b e ≤ g.q a b) (f : Nat → Int) :
    S g.n (fun i => S g.n fun j => if g.bnd i j ∧ g.cr a b i = 0 ∧ g.cr a b j = 0 then f j - f i else 0) = f b - f a := by
  have hP : ∀ i j, i < g.n → j < g.n → ((g.bnd i j ∧ g.cr a b i = 0 ∧ g.cr a b j = 0) ↔ ((g.cr a b i = 0 ∧ g.cr a b j = 0) ∧ g.s a b i < g.s a b j ∧ ∀ e, e < g.n → g.cr a b e = 0 → ¬ (g.s a b i < g.s a b e ∧ g.s a b e < g.s a b j))) := fun i j hi hj => by
    constructor
    · exact fun h => ⟨h.2, (bnd_s ok ha hb hab hl hs hi hj h.2.1 h.2.2).1 h.1⟩
    · exact fun h => ⟨(bnd_s ok ha hb hab hl hs hi hj h.1.1 h.1.2).2 h.2, h.1⟩
  have ca : g.cr a b a = 0 := cr_aba a b
  have cb : g.cr a b b = 0 := cr_ab a b
  have hq := q_pos ok ha hb hab
  have out : ∀ i, i < g.n → S g.n (fun j => if g.bnd i j ∧ g.cr a b i = 0 ∧ g.cr a b j = 0 then f i else 0) = if g.cr a b i = 0 ∧ i ≠ b then f i else 0 := fun i hi => by
    by_cases h : g.cr a b i = 0 ∧ i ≠ b
    · rw [if_pos h]
      have hib : g.s a b i < g.s a b b := by
        have h1 := (hseg i hi h.1).2
        have h2 := s_ne ok ha hb hab hi hb h.1 cb h.2
        rw [s_b] at h2 ⊢
        omega
      obtain ⟨j, j1, ⟨j2, j3⟩, j4⟩ := least_ex (P := fun j => j < g.n ∧ g.cr a b j = 0 ∧ g.s a b i < g.s a b j) (R := fun c d => g.s a b c < g.s a b d) (fun c d hc hd hne => by
        have := s_ne ok ha hb hab hc.1 hd.1 hc.2.1 hd.2.1 hne
        omega) (fun c d e _ _ _ h1 h2 => by omega) g.n ⟨b, hb, hb, cb, hib⟩
      refine S_one (w := fun _ => f i) (P := fun j => g.bnd i j ∧ g.cr a b i = 0 ∧ g.cr a b j = 0) j1 ((hP i j hi j1).2 ⟨⟨h.1, j3.1⟩, j3.2, fun e he h0 hh => ?_⟩) fun k hk hb' => ?_
      · have hne : e ≠ j := fun h' => by subst h'; omega
        have := j4 e he ⟨he, h0, hh.1⟩ hne
        omega
      · have h2 := (hP i k hi hk).1 hb'
        refine Decidable.byContradiction fun hne => ?_
        have h3 := j4 k hk ⟨hk, h2.1.2, h2.2.1⟩ hne
        exact h2.2.2 j j1 j3.1 ⟨j3.2, h3⟩
    · rw [if_neg h]
      refine S_zero _ fun j hj => if_neg fun hb' => ?_
      have h2 := (hP i j hi hj).1 hb'
      refine h ⟨hb'.2.1, fun e => ?_⟩
      subst e
      have h3 := (hseg j hj hb'.2.2).2
      have := h2.2.1
      rw [s_b] at this
      omega
  have inn : ∀ j, j < g.n → S g.n (fun i => if g.bnd i j ∧ g.cr a b i = 0 ∧ g.cr a b j = 0 then f j else 0) = if g.cr a b j = 0 ∧ j ≠ a then f j else 0 := fun j hj => by
    by_cases h : g.cr a b j = 0 ∧ j ≠ a
    · rw [if_pos h]
      have hja : g.s a b a < g.s a b j := by
        have h1 := (hseg j hj h.1).1
        have h2 := s_ne ok ha hb hab hj ha h.1 ca h.2
        rw [s_a] at h2 ⊢
        omega
      obtain ⟨i, j1, ⟨j2, j3⟩, j4⟩ := least_ex (P := fun i => i < g.n ∧ g.cr a b i = 0 ∧ g.s a b i < g.s a b j) (R := fun c d => g.s a b d < g.s a b c) (fun c d hc hd hne => by
        have := s_ne ok ha hb hab hc.1 hd.1 hc.2.1 hd.2.1 hne
        omega) (fun c d e _ _ _ h1 h2 => by omega) g.n ⟨a, ha, ha, ca, hja⟩
      refine S_one (w := fun _ => f j) (P := fun i => g.bnd i j ∧ g.cr a b i = 0 ∧ g.cr a b j = 0) j1 ((hP i j j1 hj).2 ⟨⟨j3.1, h.1⟩, j3.2, fun e he h0 hh => ?_⟩) fun k hk hb' => ?_
      · have hne : e ≠ i := fun h' => by subst h'; omega
        have := j4 e he ⟨he, h0, hh.2⟩ hne
        omega
      · have h2 := (hP k j hk hj).1 hb'
        refine Decidable.byContradiction fun hne => ?_
        have h3 := j4 k hk ⟨hk, h2.1.1, h2.2.1⟩ hne
        exact h2.2.2 i j1 j3.1 ⟨h3, j3.2⟩
    · rw [if_neg h]
      refine S_zero _ fun i hi => if_neg fun hb' => ?_
      have h2 := (hP i j hi hj).1 hb'
      refine h ⟨hb'.2.2, fun e => ?_⟩
      subst e
      have h3 := (hseg i hi hb'.2.1).1
      have := h2.2.1
      rw [s_a] at this
      omega
  have e1 : S g.n (fun i => S g.n fun j => if g.bnd i j ∧ g.cr a b i = 0 ∧ g.cr a b j = 0 then f j - f i else 0) =
      S g.n (fun i => S g.n fun j => if g.bnd i j ∧ g.cr a b i = 0 ∧ g.cr a b j = 0 then f j else 0) + -1 * S g.n (fun i => S g.n fun j => if g.bnd i j ∧ g.cr a b i = 0 ∧ g.cr a b j = 0 then f i else 0) := by
    rw [← S_mul, ← S_add]
    refine S_congr _ fun i _ => ?_
    rw [← S_mul, ← S_add]
    refine S_congr _ fun j _ => ?_
    split <;> omega
  rw [e1, S_swap (fun i j => if g.bnd i j ∧ g.cr a b i = 0 ∧ g.cr a b j = 0 then f j else 0), S_congr _ inn, S_congr _ out]
  have e2 : ∀ c, c < g.n → g.cr a b c = 0 → S g.n (fun j => if g.cr a b j = 0 ∧ j ≠ c then f j else 0) = S g.n (fun j => if g.cr a b j = 0 then f j else 0) + -1 * f c := fun c hc h0 => by
    have h1 := S_one (P := fun j => j = c) (w := f) hc rfl (fun _ _ h => h)
    rw [← h1, ← S_mul, ← S_add]
    refine S_congr _ fun j _ => ?_
    by_cases e : j = c
    · subst e
      rw [if_neg (fun h => h.2 rfl), if_pos h0, if_pos rfl]
      omega
    · rw [if_neg e]
      by_cases hj : g.cr a b j = 0
      · rw [if_pos ⟨hj, e⟩, if_pos hj]
        omega
      · rw [if_neg (fun h => hj h.1), if_neg hj]
        omega
  rw [e2 a ha ca, e2 b hb cb]
  omega
end
end Go.Pv.Geo.Cov

/- The hull's corners in a direction; which edge of the hull an edge of the border lies on; the area. -/
set_option linter.unusedVariables false
namespace Go.Pv.Geo.Cov
open Classical
variable {g : Cfg} {m : Nat} {H : Nat → Nat} {p q : Int}
theorem H_mod (h : g.Hull m H) (i : Nat) : H (i % m) = H i := by
  have h3 := h.m3
  have : ∀ k j, H (j + k * m) = H j := by
    intro k
    induction k with
    | zero => intro j; simp
    | succ k ih =>
      intro j
      rw [Nat.add_mul, Nat.one_mul, ← Nat.add_assoc, h.per, ih]
  have h1 := this (i / m) (i % m)
  rw [Nat.mul_comm, Nat.mod_add_div] at h1
  exact h1.symm
theorem H_ne (h : g.Hull m H) (i : Nat) : H i ≠ H (i + 1) ∧ H (i + 2) ≠ H i ∧ H (i + 2) ≠ H (i + 1) := by
  have h3 := h.m3
  have key : ∀ d e, d < 3 → e < 3 → H (i + d) = H (i + e) → d = e := fun d e hd he hh => by
    rw [← H_mod h (i + d), ← H_mod h (i + e)] at hh
    have h1 := h.inj _ _ (Nat.mod_lt _ (by omega)) (Nat.mod_lt _ (by omega)) hh
    have h2 := Nat.mod_add_div (i + d) m
    have h4 := Nat.mod_add_div (i + e) m
    rcases Nat.lt_trichotomy ((i + d) / m) ((i + e) / m) with h5 | h5 | h5
    · have := Nat.mul_le_mul_left m h5
      rw [Nat.mul_succ] at this
      omega
    · rw [h5] at h2; omega
    · have := Nat.mul_le_mul_left m h5
      rw [Nat.mul_succ] at this
      omega
  refine ⟨fun hh => ?_, fun hh => ?_, fun hh => ?_⟩
  · have := key 0 1 (by omega) (by omega) hh; omega
  · have := key 2 0 (by omega) (by omega) hh; omega
  · have := key 2 1 (by omega) (by omega) hh; omega
theorem H_turn (h : g.Hull m H) (i : Nat) : 0 < g.cr (H i) (H (i + 1)) (H (i + 2)) := h.strict i (i + 2) (H_ne h i).2.1 (H_ne h i).2.2
/-- Two edges of the hull have different lines. -/
theorem H_line (h : g.Hull m H) {i j : Nat} (hi : i < m) (hj : j < m) (h1 : g.cr (H i) (H (i + 1)) (H j) = 0) (h2 : g.cr (H i) (H (i + 1)) (H (j + 1)) = 0) : i = j := by
  have h3 := h.m3
  have onl : ∀ k, g.cr (H i) (H (i + 1)) (H k) = 0 → H k = H i ∨ H k = H (i + 1) := fun k hk => by
    refine Decidable.byContradiction fun hh => ?_
    have := h.strict i k (fun e => hh (.inl e)) (fun e => hh (.inr e))
    omega
  rcases onl j h1 with e | e
  · exact (h.inj j i hj hi e).symm
  · rcases onl (j + 1) h2 with e' | e'
    · exfalso
      have nn := (H_ne h i).2.1
      rw [← H_mod h j, ← H_mod h (i + 1)] at e
      have k1 := h.inj _ _ (Nat.mod_lt _ (by omega)) (Nat.mod_lt _ (by omega)) e
      have k2 : H (j + 1) = H (i + 2) := by
        rw [← H_mod h (j + 1), ← H_mod h (i + 2), Nat.add_mod, k1, ← Nat.add_mod]
      exact nn (k2 ▸ e')
    · exact absurd (e.trans e'.symm) (H_ne h j).1
theorem cone_X (a b c v : Nat) : g.cr a b c * (g.X p q v - g.X p q a) = g.cr a v c * (g.X p q b - g.X p q a) + g.cr a b v * (g.X p q c - g.X p q a) := by unfold Cfg.cr Cfg.X; grind
theorem argmin (f : Nat → Int) : ∀ n, 0 < n → ∃ k, k < n ∧ ∀ j, j < n → f k ≤ f j
  | 0, h => by omega
  | 1, _ => ⟨0, by omega, fun j hj => by
    obtain rfl : j = 0 := by omega
    exact Int.le_refl _⟩
  | n + 2, _ => by
    obtain ⟨k, h1, h2⟩ := argmin f (n + 1) (by omega)
    rcases Int.lt_or_le (f (n + 1)) (f k) with h3 | h3
    · refine ⟨n + 1, by omega, fun j hj => ?_⟩
      by_cases e : j = n + 1
      · subst e; exact Int.le_refl _
      · have := h2 j (by omega); omega
    · refine ⟨k, by omega, fun j hj => ?_⟩
      by_cases e : j = n + 1
      · subst e; exact h3
      · exact h2 j (by omega)
/-- A corner lies lowest of all points, in any direction. -/
theorem low_corner (h : g.Hull m H) (p q : Int) : ∃ k, k < m ∧ ∀ v, v < g.n → g.X p q (H k) ≤ g.X p q v := by
  have h3 := h.m3
  obtain ⟨k, h1, h2⟩ := argmin (fun k => g.X p q (H k)) m (by omega)
  have all : ∀ j, g.X p q (H k) ≤ g.X p q (H j) := fun j => by
    rw [← H_mod h j]
    exact h2 _ (Nat.mod_lt _ (by omega))
  refine ⟨k, h1, fun v hv => ?_⟩
  have e0 : H (k + (m - 1) + 1) = H k := by rw [show k + (m - 1) + 1 = k + m by omega]; exact h.per k
  have e1 : H (k + (m - 1) + 2) = H (k + 1) := by rw [show k + (m - 1) + 2 = k + 1 + m by omega]; exact h.per (k + 1)
  have t := H_turn h (k + (m - 1))
  have l1 := h.left (k + (m - 1)) v hv
  have l2 := h.left k v hv
  have c := cone_X (g := g) (p := p) (q := q) (H k) (H (k + 1)) (H (k + (m - 1))) v
  have a1 := all (k + 1)
  have a2 := all (k + (m - 1))
  rw [e0] at t l1
  rw [e1] at t
  have t' : g.cr (H k) (H (k + 1)) (H (k + (m - 1))) = g.cr (H (k + (m - 1))) (H k) (H (k + 1)) := by rw [cr_rot]
  have l1' : g.cr (H k) v (H (k + (m - 1))) = g.cr (H (k + (m - 1))) (H k) v := by rw [cr_rot]
  rw [t', l1'] at c
  have m1 := Int.mul_nonneg l1 (show 0 ≤ g.X p q (H (k + 1)) - g.X p q (H k) by omega)
  have m2 := Int.mul_nonneg l2 (show 0 ≤ g.X p q (H (k + (m - 1))) - g.X p q (H k) by omega)
  refine Decidable.byContradiction fun hh => ?_
  have := Int.mul_neg_of_pos_of_neg t (show g.X p q v - g.X p q (H k) < 0 by omega)
  omega
theorem X_neg (v : Nat) : g.X (-p) (-q) v = - g.X p q v := by unfold Cfg.X; grind
theorem first_not {P : Nat → Prop} : ∀ n, P 0 → ¬ P n → ∃ k, k < n ∧ P k ∧ ¬ P (k + 1)
  | 0, h, h' => absurd h h'
  | n + 1, h, h' => by
    by_cases hn : P n
    · exact ⟨n, by omega, hn, h'⟩
    · obtain ⟨k, h1, h2, h3⟩ := first_not n h hn
      exact ⟨k, by omega, h2, h3⟩
/-- The edge of the hull below a point. -/
theorem low_edge (h : g.Hull m H) {v e : Nat} (hv : v < g.n) (he : e < g.n) (hx : g.X p q v < g.X p q e) : ∃ k, k < m ∧ g.X p q (H k) ≤ g.X p q v ∧ g.X p q v < g.X p q (H (k + 1)) := by
  have h3 := h.m3
  obtain ⟨k0, a1, a2⟩ := low_corner h p q
  obtain ⟨k1, b1, b2⟩ := low_corner h (-p) (-q)
  have b3 := b2 e he
  rw [X_neg, X_neg] at b3
  obtain ⟨t, t1, t2, t3⟩ := first_not (P := fun t => g.X p q (H (k0 + t)) ≤ g.X p q v) (k1 + m - k0) (a2 v hv) (by
    rw [show k0 + (k1 + m - k0) = k1 + m by omega, h.per]
    omega)
  refine ⟨(k0 + t) % m, Nat.mod_lt _ (by omega), by rw [H_mod h]; exact t2, ?_⟩
  have e1 : H ((k0 + t) % m + 1) = H (k0 + (t + 1)) := by
    rw [← H_mod h ((k0 + t) % m + 1), ← H_mod h (k0 + (t + 1)), Nat.add_mod, Nat.mod_mod, ← Nat.add_mod]
    rfl
  rw [e1]
  omega
theorem wid (i a b j : Nat) : (g.X p q j - g.X p q i) * g.cr i a b = (g.X p q a - g.X p q i) * g.cr i j b - (g.X p q b - g.X p q i) * g.cr i j a := by unfold Cfg.cr Cfg.X; grind
theorem wid2 {a b i : Nat} (h0 : g.cr a b i = 0) (j : Nat) : (g.X p q b - g.X p q i) * g.cr a b j = - ((g.X p q b - g.X p q a) * g.cr i j b) := by unfold Cfg.cr Cfg.X at *; grind
/-- An edge of the border lies on an edge of the hull. -/
theorem on_edge (h : g.Hull m H) {i j : Nat} (hb : g.bnd i j) (hx : g.X p q i < g.X p q j) : ∃ k, k < m ∧ g.cr (H k) (H (k + 1)) i = 0 ∧ g.cr (H k) (H (k + 1)) j = 0 := by
  obtain ⟨k, k1, k2, k3⟩ := low_edge (p := p) (q := q) h hb.ha hb.hb hx
  have i0 : g.cr (H k) (H (k + 1)) i = 0 := by
    have w := wid (g := g) (p := p) (q := q) i (H k) (H (k + 1)) j
    have l1 := hb.left (H k) (h.idx k)
    have l2 := hb.left (H (k + 1)) (h.idx (k + 1))
    have l3 := h.left k i hb.ha
    have e := cr_rot (g := g) (H k) (H (k + 1)) i
    have e' := cr_rot (g := g) (H (k + 1)) i (H k)
    refine Decidable.byContradiction fun hh => ?_
    have m1 := Int.mul_nonpos_of_nonpos_of_nonneg (show g.X p q (H k) - g.X p q i ≤ 0 by omega) l2
    have m2 := Int.mul_nonneg (show 0 ≤ g.X p q (H (k + 1)) - g.X p q i by omega) l1
    have m3 := Int.mul_pos (show 0 < g.X p q j - g.X p q i by omega) (show 0 < g.cr i (H k) (H (k + 1)) by omega)
    omega
  refine ⟨k, k1, i0, ?_⟩
  have w := wid2 (g := g) (p := p) (q := q) i0 j
  have l1 := hb.left (H (k + 1)) (h.idx (k + 1))
  have l2 := h.left k j hb.hb
  refine Decidable.byContradiction fun hh => ?_
  have m1 := Int.mul_pos (show 0 < g.X p q (H (k + 1)) - g.X p q i by omega) (show 0 < g.cr (H k) (H (k + 1)) j by omega)
  have m2 := Int.mul_nonneg (show 0 ≤ g.X p q (H (k + 1)) - g.X p q (H k) by omega) l1
  omega
theorem on_uniq (ok : g.OK) (h : g.Hull m H) {i j k k' : Nat} (hi' : i < g.n) (hj' : j < g.n) (hne : i ≠ j) (hk : k < m) (hk' : k' < m) (a1 : g.cr (H k) (H (k + 1)) i = 0) (a2 : g.cr (H k) (H (k + 1)) j = 0) (b1 : g.cr (H k') (H (k' + 1)) i = 0) (b2 : g.cr (H k') (H (k' + 1)) j = 0) : k = k' := by
  have n1 := H_ne h k
  have n2 := H_ne h k'
  have q1 := q_pos ok (h.idx k) (h.idx (k + 1)) n1.1
  have q2 := q_pos ok (h.idx k') (h.idx (k' + 1)) n2.1
  have s1 := s_ne ok (h.idx k) (h.idx (k + 1)) n1.1 hi' hj' a1 a2 hne
  have on : ∀ c, g.cr (H k') (H (k' + 1)) c = 0 → g.cr (H k) (H (k + 1)) c = 0 := fun c hc => by
    have e1 := line_cr b1 b2 c
    rw [hc, Int.mul_zero] at e1
    have e2 : g.cr i j c = 0 := by rcases Int.mul_eq_zero.1 e1 with e | e <;> omega
    have e3 := line_cr a1 a2 c
    rw [e2, Int.zero_mul] at e3
    rcases Int.mul_eq_zero.1 e3.symm with e | e <;> omega
  exact H_line h hk hk' (on _ (cr_aba _ _)) (on _ (cr_ab _ _))
theorem hull_seg (ok : g.OK) (h : g.Hull m H) (k : Nat) : ∀ e, e < g.n → g.cr (H k) (H (k + 1)) e = 0 → 0 ≤ g.s (H k) (H (k + 1)) e ∧ g.s (H k) (H (k + 1)) e ≤ g.q (H k) (H (k + 1)) := fun e he h0 => by
  have n1 := H_ne h k
  have hq := q_pos ok (h.idx k) (h.idx (k + 1)) n1.1
  rcases h.seg k e he h0 with e' | e' | e'
  · rw [e', s_a]; omega
  · rw [e', s_b]; omega
  · have := (btw_s ok (h.idx k) (h.idx (k + 1)) n1.1 (cr_aba _ _) (cr_ab _ _) h0 (by rw [s_a, s_b]; exact hq)).1 e'
    rw [s_a, s_b] at this
    omega
theorem line_f {a b i j : Nat} (hq : 0 < g.q a b) (hi : g.cr a b i = 0) (hj : g.cr a b j = 0) (o : Nat) : g.cr o i j = g.cr o a j - g.cr o a i := by
  have h1 := line_cr (cr_aba a b) hi j
  rw [hj, Int.mul_zero] at h1
  have h2 : g.cr a i j = 0 := by rcases Int.mul_eq_zero.1 h1 with e | e <;> omega
  have h3 := cr_sum (g := g) o a i j
  have h4 : g.cr o j a = - g.cr o a j := cr_swap' ..
  omega
/-- The border's measure is that of the hull. -/
theorem border_hull (ok : g.OK) (h : g.Hull m H) (inj : ∀ i j, i < g.n → j < g.n → i ≠ j → g.X p q i ≠ g.X p q j) (o : Nat) : S g.n (fun i => S g.n fun j => g.b i j * g.cr o i j) = S m fun k => g.cr o (H k) (H (k + 1)) := by
  have h1 : ∀ i j, i < g.n → j < g.n → g.b i j * g.cr o i j = S m (fun k => if g.bnd i j ∧ g.cr (H k) (H (k + 1)) i = 0 ∧ g.cr (H k) (H (k + 1)) j = 0 then g.cr o (H k) j - g.cr o (H k) i else 0) := fun i j hi hj => by
    unfold Cfg.b
    by_cases hb : g.bnd i j
    · have hk : ∃ k, k < m ∧ g.cr (H k) (H (k + 1)) i = 0 ∧ g.cr (H k) (H (k + 1)) j = 0 := by
        rcases Int.lt_or_le (g.X p q i) (g.X p q j) with hx | hx
        · exact on_edge h hb hx
        · refine on_edge (p := -p) (q := -q) h hb ?_
          have := inj i j hi hj hb.ne
          rw [X_neg, X_neg]
          omega
      obtain ⟨k, k1, k2, k3⟩ := hk
      rw [if_pos hb, S_one (P := fun k => g.bnd i j ∧ g.cr (H k) (H (k + 1)) i = 0 ∧ g.cr (H k) (H (k + 1)) j = 0) (w := fun k => g.cr o (H k) j - g.cr o (H k) i) k1 ⟨hb, k2, k3⟩ fun k' hk' hh => (on_uniq ok h hi hj hb.ne k1 hk' k2 k3 hh.2.1 hh.2.2).symm]
      rw [line_f (q_pos ok (h.idx k) (h.idx (k + 1)) (H_ne h k).1) k2 k3 o]
      omega
    · rw [if_neg hb, S_zero m fun k _ => if_neg fun hh => hb hh.1]
      omega
  rw [S_congr _ fun i hi => S_congr _ fun j hj => h1 i j hi hj]
  have h2 : ∀ i, S g.n (fun j => S m fun k => if g.bnd i j ∧ g.cr (H k) (H (k + 1)) i = 0 ∧ g.cr (H k) (H (k + 1)) j = 0 then g.cr o (H k) j - g.cr o (H k) i else 0) = S m fun k => S g.n fun j => if g.bnd i j ∧ g.cr (H k) (H (k + 1)) i = 0 ∧ g.cr (H k) (H (k + 1)) j = 0 then g.cr o (H k) j - g.cr o (H k) i else 0 := fun i => S_swap (fun j k => if g.bnd i j ∧ g.cr (H k) (H (k + 1)) i = 0 ∧ g.cr (H k) (H (k + 1)) j = 0 then g.cr o (H k) j - g.cr o (H k) i else 0) m g.n
  rw [S_congr _ fun i _ => h2 i, S_swap (fun i k => S g.n fun j => if g.bnd i j ∧ g.cr (H k) (H (k + 1)) i = 0 ∧ g.cr (H k) (H (k + 1)) j = 0 then g.cr o (H k) j - g.cr o (H k) i else 0)]
  refine S_congr _ fun k _ => ?_
  rw [edge_sum ok (h.idx k) (h.idx (k + 1)) (H_ne h k).1 (h.left k) ⟨H (k + 2), h.idx _, H_turn h k⟩ (hull_seg ok h k) (fun e => g.cr o (H k) e), cr_ab]
  omega
/-- THE AREAS ADD UP. -/
theorem area (ok : g.OK) (h : g.Hull m H) (inj : ∀ i j, i < g.n → j < g.n → i ≠ j → g.X p q i ≠ g.X p q j) (o : Nat) : g.T1 (fun i j k => g.cr i j k) = S m fun k => g.cr o (H k) (H (k + 1)) := by
  have h1 := T1_T3 (g := g) (fun i j k => g.cr i j k) fun i j k => cr_rot i j k
  have h2 : g.T3 (fun i j k => g.cr i j k) = g.T3 (fun i j k => g.cr o i j + g.cr o j k + g.cr o k i) := T3_congr fun i j k _ => cr_sum o i j k
  have h3 := T3_border ok (fun i j => g.cr o i j) fun i j => cr_swap' ..
  rw [border_hull ok h inj o] at h3
  omega
end Go.Pv.Geo.Cov

/- How many faces there are. -/
set_option linter.unusedVariables false
namespace Go.Pv.Geo.Cov
open Classical
variable {g : Cfg} {m : Nat} {H : Nat → Nat} {p q : Int}
def Cfg.bor (g : Cfg) (m : Nat) (H : Nat → Nat) (v : Nat) : Prop := ∃ k, k < m ∧ g.cr (H k) (H (k + 1)) v = 0
def Cfg.up (g : Cfg) (p q : Int) (v : Nat) : Prop := ∃ r l, g.pair p q v r l
theorem wid3 (v a b r l : Nat) : (g.X p q b - g.X p q a) * g.cr v r l = (g.X p q r - g.X p q v) * (g.cr a b l - g.cr a b v) - (g.X p q l - g.X p q v) * (g.cr a b r - g.cr a b v) := by unfold Cfg.cr Cfg.X; grind
/-- A point on an edge of the hull that goes up in a direction has nothing below it. -/
theorem no_pair (h : g.Hull m H) {v k : Nat} (h0 : g.cr (H k) (H (k + 1)) v = 0) (hx : g.X p q (H k) < g.X p q (H (k + 1))) : ¬ g.up (-p) (-q) v := by
  rintro ⟨r, l, hp⟩
  have x1 := hp.xl
  have x2 := hp.xr
  rw [X_neg, X_neg] at x1 x2
  have w := wid3 (g := g) (p := p) (q := q) v (H k) (H (k + 1)) r l
  have l1 := h.left k r hp.hr
  have l2 := h.left k l hp.hl
  rw [h0, Int.sub_zero, Int.sub_zero] at w
  have m1 := Int.mul_nonpos_of_nonpos_of_nonneg (show g.X p q r - g.X p q v ≤ 0 by omega) l2
  have m2 := Int.mul_nonneg (show 0 ≤ g.X p q l - g.X p q v by omega) l1
  have m3 := Int.mul_pos (show 0 < g.X p q (H (k + 1)) - g.X p q (H k) by omega) hp.up
  omega
theorem cr_zero_rot {a b v : Nat} (h : a = v ∨ b = v) : g.cr a b v = 0 := by
  rcases h with h | h <;> subst h
  · exact cr_aba _ _
  · exact cr_ab _ _
/-- Below a point there is something, just if it is not on the edge of the hull below it. -/
theorem down_iff (h : g.Hull m H) (inj : ∀ i j, i < g.n → j < g.n → i ≠ j → g.X p q i ≠ g.X p q j) {v k : Nat} (hv : v < g.n) (k2 : g.X p q (H k) ≤ g.X p q v) (k3 : g.X p q v < g.X p q (H (k + 1))) : g.up (-p) (-q) v ↔ g.cr (H k) (H (k + 1)) v ≠ 0 := by
  constructor
  · exact fun hu h0 => no_pair h h0 (by omega) hu
  · intro h0
    have hne : H k ≠ v := fun e => h0 (cr_zero_rot (.inl e))
    have hx := inj (H k) v (h.idx k) hv hne
    have l := h.left k v hv
    refine ⟨H k, H (k + 1), h.idx k, h.idx (k + 1), by rw [X_neg, X_neg]; omega, by rw [X_neg, X_neg]; omega, ?_⟩
    have e := cr_rot (g := g) (H k) (H (k + 1)) v
    have e' := cr_rot (g := g) (H (k + 1)) v (H k)
    omega
theorem not_both (h : g.Hull m H) {v k k' : Nat} (hv : v < g.n) (hk : k < m) (hk' : k' < m) (k2 : g.X p q (H k) ≤ g.X p q v) (k3 : g.X p q v < g.X p q (H (k + 1))) (k4 : g.X p q v ≤ g.X p q (H k')) (k5 : g.X p q (H (k' + 1)) < g.X p q v)
    (h0 : g.cr (H k) (H (k + 1)) v = 0) (h0' : g.cr (H k') (H (k' + 1)) v = 0) : False := by
  have h3 := h.m3
  -- the ends of the two edges and the point are on one line
  have w1 := wid2 (g := g) (p := p) (q := q) h0 (H (k' + 1))
  have w2 := wid2 (g := g) (p := p) (q := q) h0' (H (k + 1))
  have l1 := h.left k (H (k' + 1)) (h.idx _)
  have l2 := h.left k' (H (k + 1)) (h.idx _)
  have s1 := cr_swap' (g := g) v (H (k' + 1)) (H (k + 1))
  have z : g.cr v (H (k' + 1)) (H (k + 1)) = 0 := by
    refine Decidable.byContradiction fun hz => ?_
    rcases Int.lt_or_le 0 (g.cr v (H (k' + 1)) (H (k + 1))) with h4 | h4
    · have m1 := Int.mul_nonneg (show 0 ≤ g.X p q (H (k + 1)) - g.X p q v by omega) l1
      have m2 := Int.mul_pos (show 0 < g.X p q (H (k + 1)) - g.X p q (H k) by omega) h4
      omega
    · have m1 := Int.mul_nonpos_of_nonpos_of_nonneg (show g.X p q (H (k' + 1)) - g.X p q v ≤ 0 by omega) l2
      have m2 := Int.mul_neg_of_neg_of_pos (show g.X p q (H (k' + 1)) - g.X p q (H k') < 0 by omega) (show 0 < g.cr v (H (k + 1)) (H (k' + 1)) by omega)
      omega
  have c1 : g.cr (H k) (H (k + 1)) (H (k' + 1)) = 0 := by
    rw [z, Int.mul_zero, Int.neg_zero] at w1
    rcases Int.mul_eq_zero.1 w1 with e | e <;> omega
  have c2 : g.cr (H k') (H (k' + 1)) (H (k + 1)) = 0 := by
    rw [s1, z] at w2
    rw [Int.neg_zero, Int.mul_zero, Int.neg_zero] at w2
    rcases Int.mul_eq_zero.1 w2 with e | e <;> omega
  have e1 : H (k' + 1) = H k := by
    refine Decidable.byContradiction fun hh => ?_
    have := h.strict k (k' + 1) hh (fun e => by rw [e] at k5; omega)
    omega
  have e2 : H (k + 1) = H k' := by
    refine Decidable.byContradiction fun hh => ?_
    have := h.strict k' (k + 1) hh (fun e => by rw [e] at k3; omega)
    omega
  rw [← H_mod h (k' + 1), ← H_mod h k] at e1
  have q1 := h.inj _ _ (Nat.mod_lt _ (by omega)) (Nat.mod_lt _ (by omega)) e1
  have e3 : H (k' + 2) = H (k + 1) := by
    rw [← H_mod h (k' + 2), ← H_mod h (k + 1), show k' + 2 = k' + 1 + 1 from rfl, Nat.add_mod, q1, ← Nat.add_mod]
  exact (H_ne h k').2.1 (e3.trans e2)
theorem up_neg (v : Nat) : g.up (- -p) (- -q) v ↔ g.up p q v := by rw [Int.neg_neg, Int.neg_neg]
/-- The faces above and below a point. -/
theorem ud_count (h : g.Hull m H) (inj : ∀ i j, i < g.n → j < g.n → i ≠ j → g.X p q i ≠ g.X p q j) {lo hi : Nat} (hlo : lo < g.n) (hhi : hi < g.n) (h1 : ∀ v, v < g.n → g.X p q lo ≤ g.X p q v) (h2 : ∀ v, v < g.n → g.X p q v ≤ g.X p q hi) (hb1 : g.bor m H lo) (hb2 : g.bor m H hi) {v : Nat} (hv : v < g.n) :
    (if g.up p q v then (1 : Int) else 0) + (if g.up (-p) (-q) v then 1 else 0) = 2 - (if g.bor m H v then 1 else 0) - (if v = lo then 1 else 0) - (if v = hi then 1 else 0) + (if v = lo ∧ v = hi then 1 else 0) := by
  by_cases el : v = lo
  · subst el
    have n1 : ¬ g.up p q v := by
      rintro ⟨r, l, hp⟩
      have := hp.xl
      have := h1 l hp.hl
      omega
    have n2 : ¬ g.up (-p) (-q) v := by
      rintro ⟨r, l, hp⟩
      have := hp.xr
      rw [X_neg, X_neg] at this
      have := h1 r hp.hr
      omega
    rw [if_neg n1, if_neg n2, if_pos hb1, if_pos rfl]
    by_cases eh : v = hi
    · rw [if_pos eh, if_pos ⟨rfl, eh⟩]; rfl
    · rw [if_neg eh, if_neg (fun h => eh h.2)]; rfl
  · rw [if_neg el, if_neg (fun h : v = lo ∧ v = hi => el h.1)]
    by_cases eh : v = hi
    · subst eh
      have n1 : ¬ g.up p q v := by
        rintro ⟨r, l, hp⟩
        have := hp.xr
        have := h2 r hp.hr
        omega
      have n2 : ¬ g.up (-p) (-q) v := by
        rintro ⟨r, l, hp⟩
        have := hp.xl
        rw [X_neg, X_neg] at this
        have := h2 l hp.hl
        omega
      rw [if_neg n1, if_neg n2, if_pos hb2, if_pos rfl]
      rfl
    · rw [if_neg eh]
      have x1 := h1 v hv
      have x2 := h2 v hv
      have y1 := inj v lo hv hlo el
      have y2 := inj v hi hv hhi eh
      obtain ⟨k, k1, k2, k3⟩ := low_edge (p := p) (q := q) h hv hhi (by omega)
      obtain ⟨k', k1', k2', k3'⟩ := low_edge (p := -p) (q := -q) h hv hlo (by rw [X_neg, X_neg]; omega)
      have d1 := down_iff h inj hv k2 k3
      have d2 := down_iff (p := -p) (q := -q) h (fun i j hi hj hne => by have := inj i j hi hj hne; rw [X_neg, X_neg]; omega) hv k2' k3'
      rw [up_neg] at d2
      rw [X_neg, X_neg] at k2' k3'
      by_cases z1 : g.cr (H k) (H (k + 1)) v = 0
      · have z2 : g.cr (H k') (H (k' + 1)) v ≠ 0 := fun z2 => not_both h hv k1 k1' k2 k3 (by omega) (by omega) z1 z2
        rw [if_pos (d2.2 z2), if_neg (fun h => d1.1 h z1), if_pos (show g.bor m H v from ⟨k, k1, z1⟩)]
        rfl
      · by_cases z2 : g.cr (H k') (H (k' + 1)) v = 0
        · rw [if_neg (fun h => d2.1 h z2), if_pos (d1.2 z1), if_pos (show g.bor m H v from ⟨k', k1', z2⟩)]
          rfl
        · have nb : ¬ g.bor m H v := by
            rintro ⟨c, c1, c2⟩
            have cx := inj (H c) (H (c + 1)) (h.idx c) (h.idx (c + 1)) (H_ne h c).1
            rcases Int.lt_or_le (g.X p q (H c)) (g.X p q (H (c + 1))) with hx | hx
            · exact no_pair h c2 hx (d1.2 z1)
            · refine no_pair (p := -p) (q := -q) h c2 (by rw [X_neg, X_neg]; omega) ((up_neg v).2 (d2.2 z2))
          rw [if_pos (d2.2 z2), if_pos (d1.2 z1), if_neg nb]
          rfl
/-- One face above each point with anything above it. -/
theorem T3_up (ok : g.OK) (inj : ∀ i j, i < g.n → j < g.n → i ≠ j → g.X p q i ≠ g.X p q j) : g.T3 (fun v r l => if g.X p q l < g.X p q v ∧ g.X p q v < g.X p q r then 1 else 0) = S g.n fun v => if g.up p q v then 1 else 0 := by
  refine S_congr _ fun v hv => ?_
  have pt : ∀ r l, g.tri v r l → (g.X p q l < g.X p q v ∧ g.X p q v < g.X p q r) → g.pair p q v r l := fun r l ht hx => ⟨ht.1.2.1, ht.1.2.2, hx.1, hx.2, ht.2.1⟩
  by_cases hu : g.up p q v
  · rw [if_pos hu]
    obtain ⟨r, l, ht, hp⟩ := pair_tri ok inj hv hu
    have inner : ∀ r', S g.n (fun l' => g.t v r' l' * (if g.X p q l' < g.X p q v ∧ g.X p q v < g.X p q r' then 1 else 0)) = if r' = r then 1 else 0 := fun r' => by
      by_cases e : r' = r
      · subst e
        rw [if_pos rfl]
        refine Eq.trans (S_congr _ fun l' _ => ?_) (S_one (P := fun l' => l' = l) (n := g.n) (w := fun _ => 1) hp.hl rfl (fun _ _ h => h))
        unfold Cfg.t
        by_cases e' : l' = l
        · subst e'
          rw [if_pos ht, if_pos ⟨hp.xl, hp.xr⟩, if_pos rfl]
          rfl
        · rw [if_neg e']
          by_cases ht' : g.tri v r' l'
          · rw [if_pos ht', if_neg fun hx => e' (pair_uniq ht' (pt r' l' ht' hx) ht hp).2]
            rfl
          · rw [if_neg ht', Int.zero_mul]
      · rw [if_neg e]
        refine S_zero _ fun l' _ => ?_
        unfold Cfg.t
        by_cases ht' : g.tri v r' l'
        · rw [if_pos ht', if_neg fun hx => e (pair_uniq ht' (pt r' l' ht' hx) ht hp).1]
          rfl
        · rw [if_neg ht', Int.zero_mul]
    rw [S_congr _ fun r' _ => inner r']
    exact S_one (P := fun r' => r' = r) (w := fun _ => 1) hp.hr rfl (fun _ _ h => h)
  · rw [if_neg hu]
    refine S_zero _ fun r' _ => S_zero _ fun l' _ => ?_
    show g.t v r' l' * (if g.X p q l' < g.X p q v ∧ g.X p q v < g.X p q r' then 1 else 0) = 0
    unfold Cfg.t
    by_cases ht' : g.tri v r' l'
    · rw [if_pos ht', if_neg fun hx => hu ⟨r', l', pt r' l' ht' hx⟩]
      rfl
    · rw [if_neg ht', Int.zero_mul]
theorem S_const (c : Int) : ∀ n, S n (fun _ => c) = c * n
  | 0 => by simp [S]
  | n + 1 => by
    show S n (fun _ => c) + c = _
    rw [S_const c n]
    grind
/-- HOW MANY THERE ARE. -/
theorem count (ok : g.OK) (h : g.Hull m H) (inj : ∀ i j, i < g.n → j < g.n → i ≠ j → g.X p q i ≠ g.X p q j) (h2 : 2 ≤ g.n) : g.T1 (fun _ _ _ => 1) = 2 * (g.n : Int) - 2 - S g.n fun v => if g.bor m H v then 1 else 0 := by
  have i' : ∀ i j, i < g.n → j < g.n → i ≠ j → g.X (-p) (-q) i ≠ g.X (-p) (-q) j := fun i j hi hj hne => by have := inj i j hi hj hne; rw [X_neg, X_neg]; omega
  have h1 := T1_T3 (g := g) (fun _ _ _ => 1) fun _ _ _ => rfl
  let u : Nat → Nat → Nat → Int := fun v r l => if g.X p q l < g.X p q v ∧ g.X p q v < g.X p q r then 1 else 0
  let d : Nat → Nat → Nat → Int := fun v r l => if g.X (-p) (-q) l < g.X (-p) (-q) v ∧ g.X (-p) (-q) v < g.X (-p) (-q) r then 1 else 0
  let f : Nat → Nat → Nat → Int := fun v r l => u v r l + d v r l
  have e1 : g.T3 f = (S g.n fun v => if g.up p q v then 1 else 0) + S g.n fun v => if g.up (-p) (-q) v then 1 else 0 := by
    rw [← T3_up ok inj, ← T3_up ok i']
    exact T3_add u d
  have e2 : g.T3 (fun _ _ _ => 1) = g.T3 (fun i j k => (f i j k + f j k i) + f k i j) := T3_congr fun i j k ht => by
    obtain ⟨n1, n2, n3⟩ := tri_ne ht
    have x1 := inj i j ht.1.1 ht.1.2.1 n1
    have x2 := inj j k ht.1.2.1 ht.1.2.2 n2
    have x3 := inj i k ht.1.1 ht.1.2.2 n3
    simp only [f, u, d, X_neg]
    (repeat' split) <;> omega
  have r1 := T3_rot (g := g) f
  have r2 := T3_rot (g := g) (fun i j k => f j k i)
  have r3 : g.T3 (fun i j k => f k i j) = g.T3 (fun i j k => f j k i) := r2
  rw [T3_add, T3_add, r3, r1, e1, ← S_add] at e2
  obtain ⟨k0, a1, a2⟩ := low_corner h p q
  obtain ⟨k1, b1, b2⟩ := low_corner h (-p) (-q)
  have b2' : ∀ v, v < g.n → g.X p q v ≤ g.X p q (H k1) := fun v hv => by
    have := b2 v hv
    rw [X_neg, X_neg] at this
    omega
  have hb1 : g.bor m H (H k0) := ⟨k0, a1, cr_aba _ _⟩
  have hb2 : g.bor m H (H k1) := ⟨k1, b1, cr_aba _ _⟩
  have hne : H k0 ≠ H k1 := fun e => by
    have p0 := h.idx k0
    obtain ⟨w, hw, hw'⟩ : ∃ w, w < g.n ∧ w ≠ H k0 := by
      by_cases e0 : H k0 = 0
      · exact ⟨1, by omega, by omega⟩
      · exact ⟨0, by omega, fun e => e0 e.symm⟩
    have y := inj w (H k0) hw p0 hw'
    have y1 := a2 w hw
    have y2 := b2' w hw
    rw [← e] at y2
    omega
  have e3 : S g.n (fun v => (if g.up p q v then (1 : Int) else 0) + if g.up (-p) (-q) v then 1 else 0) = S g.n (fun v => ((2 + -1 * (if g.bor m H v then (1 : Int) else 0)) + -1 * (if v = H k0 then 1 else 0)) + -1 * (if v = H k1 then 1 else 0)) := by
    refine S_congr _ fun v hv => ?_
    rw [ud_count h inj (h.idx k0) (h.idx k1) a2 b2' hb1 hb2 hv, if_neg (fun hh : v = H k0 ∧ v = H k1 => hne (hh.1.symm.trans hh.2))]
    omega
  rw [e3, S_add, S_add, S_add, S_mul, S_mul, S_mul, S_const, S_one (P := fun v => v = H k0) (w := fun _ => 1) (h.idx k0) rfl (fun _ _ h => h), S_one (P := fun v => v = H k1) (w := fun _ => 1) (h.idx k1) rfl (fun _ _ h => h)] at e2
  omega
end Go.Pv.Geo.Cov

open Go Go.Proofs Go.Pv
namespace Go.Pv.Tf
instance tsh0 : TSh Try.prog 0 .one := ⟨by kernel_rfl⟩
instance tcl0 : TCells Try.prog 0 1 := ⟨by kernel_rfl, by decide⟩
instance tsh1 : TSh Try.prog 1 .one := ⟨by kernel_rfl⟩
instance tcl1 : TCells Try.prog 1 1 := ⟨by kernel_rfl, by decide⟩
instance tze1 : TZero Try.prog 1 (.nilfunc) := ⟨by kernel_rfl, rfl, by decide⟩
instance tsh2 : TSh Try.prog 2 .one := ⟨by kernel_rfl⟩
instance tcl2 : TCells Try.prog 2 1 := ⟨by kernel_rfl, by decide⟩
instance tze2 : TZero Try.prog 2 (.int .i64 0) := ⟨by kernel_rfl, rfl, by decide⟩
instance tsh3 : TSh Try.prog 3 .one := ⟨by kernel_rfl⟩
instance tcl3 : TCells Try.prog 3 1 := ⟨by kernel_rfl, by decide⟩
instance tze3 : TZero Try.prog 3 (.int .i64 0) := ⟨by kernel_rfl, rfl, by decide⟩
instance tsh4 : TSh Try.prog 4 .one := ⟨by kernel_rfl⟩
instance tcl4 : TCells Try.prog 4 1 := ⟨by kernel_rfl, by decide⟩
instance tze4 : TZero Try.prog 4 (.bool false) := ⟨by kernel_rfl, rfl, by decide⟩
instance tsh5 : TSh Try.prog 5 .one := ⟨by kernel_rfl⟩
instance tcl5 : TCells Try.prog 5 1 := ⟨by kernel_rfl, by decide⟩
instance tze5 : TZero Try.prog 5 (.int .u8 0) := ⟨by kernel_rfl, rfl, by decide⟩
instance tsh6 : TSh Try.prog 6 .one := ⟨by kernel_rfl⟩
instance tcl6 : TCells Try.prog 6 1 := ⟨by kernel_rfl, by decide⟩
instance tze6 : TZero Try.prog 6 (.int .u8 0) := ⟨by kernel_rfl, rfl, by decide⟩
instance tsh7 : TSh Try.prog 7 (.many 4) := ⟨by kernel_rfl⟩
instance tcl7 : TCells Try.prog 7 4 := ⟨by kernel_rfl, by decide⟩
instance tfl7x0 : TField Try.prog 7 0 0 2 := ⟨by kernel_rfl, kne (k := 1) (by kernel_rfl) (by decide)⟩
instance tfl7x1 : TField Try.prog 7 1 1 3 := ⟨by kernel_rfl, kne (k := 1) (by kernel_rfl) (by decide)⟩
instance tfl7x2 : TField Try.prog 7 2 2 4 := ⟨by kernel_rfl, kne (k := 1) (by kernel_rfl) (by decide)⟩
instance tfl7x3 : TField Try.prog 7 3 3 6 := ⟨by kernel_rfl, kne (k := 1) (by kernel_rfl) (by decide)⟩
instance tly7 : TLay Try.prog 7 [.int .i64 0, .int .i64 0, .bool false, .int .u8 0] [(0, 1), (1, 1), (2, 1), (3, 1)] := ⟨by kernel_rfl⟩
instance tze7 : TZero Try.prog 7 (.agg [.int .i64 0, .int .i64 0, .bool false, .int .u8 0]) := ⟨by kernel_rfl, rfl, by decide⟩
instance tsh8 : TSh Try.prog 8 (.many 4) := ⟨by kernel_rfl⟩
instance tcl8 : TCells Try.prog 8 4 := ⟨by kernel_rfl, by decide⟩
instance tfl8x0 : TField Try.prog 8 0 0 2 := ⟨by kernel_rfl, kne (k := 1) (by kernel_rfl) (by decide)⟩
instance tfl8x1 : TField Try.prog 8 1 1 3 := ⟨by kernel_rfl, kne (k := 1) (by kernel_rfl) (by decide)⟩
instance tfl8x2 : TField Try.prog 8 2 2 4 := ⟨by kernel_rfl, kne (k := 1) (by kernel_rfl) (by decide)⟩
instance tfl8x3 : TField Try.prog 8 3 3 6 := ⟨by kernel_rfl, kne (k := 1) (by kernel_rfl) (by decide)⟩
instance tly8 : TLay Try.prog 8 [.int .i64 0, .int .i64 0, .bool false, .int .u8 0] [(0, 1), (1, 1), (2, 1), (3, 1)] := ⟨by kernel_rfl⟩
instance tze8 : TZero Try.prog 8 (.agg [.int .i64 0, .int .i64 0, .bool false, .int .u8 0]) := ⟨by kernel_rfl, rfl, by decide⟩
instance tsh9 : TSh Try.prog 9 .one := ⟨by kernel_rfl⟩
instance tst9 : TStr Try.prog 9 := ⟨by kernel_rfl⟩
instance tcl9 : TCells Try.prog 9 1 := ⟨by kernel_rfl, by decide⟩
instance tze9 : TZero Try.prog 9 (.str ByteArray.empty) := ⟨by kernel_rfl, rfl, by decide⟩
instance tsh10 : TSh Try.prog 10 .one := ⟨by kernel_rfl⟩
instance tst10 : TStr Try.prog 10 := ⟨by kernel_rfl⟩
instance tcl10 : TCells Try.prog 10 1 := ⟨by kernel_rfl, by decide⟩
instance tze10 : TZero Try.prog 10 (.str ByteArray.empty) := ⟨by kernel_rfl, rfl, by decide⟩
instance tsh11 : TSh Try.prog 11 .one := ⟨by kernel_rfl⟩
instance tst11 : TStr Try.prog 11 := ⟨by kernel_rfl⟩
instance tcl11 : TCells Try.prog 11 1 := ⟨by kernel_rfl, by decide⟩
instance tze11 : TZero Try.prog 11 (.str ByteArray.empty) := ⟨by kernel_rfl, rfl, by decide⟩
instance tsh12 : TSh Try.prog 12 .one := ⟨by kernel_rfl⟩
instance tcl12 : TCells Try.prog 12 1 := ⟨by kernel_rfl, by decide⟩
instance tze12 : TZero Try.prog 12 (.int .u64 0) := ⟨by kernel_rfl, rfl, by decide⟩
instance tsh13 : TSh Try.prog 13 (.many 2) := ⟨by kernel_rfl⟩
instance tcl13 : TCells Try.prog 13 2 := ⟨by kernel_rfl, by decide⟩
instance tfl13x0 : TField Try.prog 13 0 0 9 := ⟨by kernel_rfl, kne (k := 1) (by kernel_rfl) (by decide)⟩
instance tfl13x1 : TField Try.prog 13 1 1 12 := ⟨by kernel_rfl, kne (k := 1) (by kernel_rfl) (by decide)⟩
instance tly13 : TLay Try.prog 13 [.str ByteArray.empty, .int .u64 0] [(0, 1), (1, 1)] := ⟨by kernel_rfl⟩
instance tze13 : TZero Try.prog 13 (.agg [.str ByteArray.empty, .int .u64 0]) := ⟨by kernel_rfl, rfl, by decide⟩
instance tsh14 : TSh Try.prog 14 (.many 2) := ⟨by kernel_rfl⟩
instance tcl14 : TCells Try.prog 14 2 := ⟨by kernel_rfl, by decide⟩
instance tfl14x0 : TField Try.prog 14 0 0 9 := ⟨by kernel_rfl, kne (k := 1) (by kernel_rfl) (by decide)⟩
instance tfl14x1 : TField Try.prog 14 1 1 12 := ⟨by kernel_rfl, kne (k := 1) (by kernel_rfl) (by decide)⟩
instance tly14 : TLay Try.prog 14 [.str ByteArray.empty, .int .u64 0] [(0, 1), (1, 1)] := ⟨by kernel_rfl⟩
instance tze14 : TZero Try.prog 14 (.agg [.str ByteArray.empty, .int .u64 0]) := ⟨by kernel_rfl, rfl, by decide⟩
instance tsh15 : TSh Try.prog 15 .one := ⟨by kernel_rfl⟩
instance tcl15 : TCells Try.prog 15 1 := ⟨by kernel_rfl, by decide⟩
instance tze15 : TZero Try.prog 15 (.nilptr) := ⟨by kernel_rfl, rfl, by decide⟩
instance tsh16 : TSh Try.prog 16 .one := ⟨by kernel_rfl⟩
instance tcl16 : TCells Try.prog 16 1 := ⟨by kernel_rfl, by decide⟩
instance tze16 : TZero Try.prog 16 (.nilptr) := ⟨by kernel_rfl, rfl, by decide⟩
instance tsh17 : TSh Try.prog 17 .one := ⟨by kernel_rfl⟩
instance tcl17 : TCells Try.prog 17 1 := ⟨by kernel_rfl, by decide⟩
instance tze17 : TZero Try.prog 17 (.nilptr) := ⟨by kernel_rfl, rfl, by decide⟩
instance tsh18 : TSh Try.prog 18 (.many 1) := ⟨by kernel_rfl⟩
instance tcl18 : TCells Try.prog 18 1 := ⟨by kernel_rfl, by decide⟩
instance tfl18x0 : TField Try.prog 18 0 0 17 := ⟨by kernel_rfl, kne (k := 1) (by kernel_rfl) (by decide)⟩
instance tly18 : TLay Try.prog 18 [.nilptr] [(0, 1)] := ⟨by kernel_rfl⟩
instance tze18 : TZero Try.prog 18 (.agg [.nilptr]) := ⟨by kernel_rfl, rfl, by decide⟩
instance tsh19 : TSh Try.prog 19 (.many 1) := ⟨by kernel_rfl⟩
instance tcl19 : TCells Try.prog 19 1 := ⟨by kernel_rfl, by decide⟩
instance tfl19x0 : TField Try.prog 19 0 0 17 := ⟨by kernel_rfl, kne (k := 1) (by kernel_rfl) (by decide)⟩
instance tly19 : TLay Try.prog 19 [.nilptr] [(0, 1)] := ⟨by kernel_rfl⟩
instance tze19 : TZero Try.prog 19 (.agg [.nilptr]) := ⟨by kernel_rfl, rfl, by decide⟩
instance tsh20 : TSh Try.prog 20 .one := ⟨by kernel_rfl⟩
instance tcl20 : TCells Try.prog 20 1 := ⟨by kernel_rfl, by decide⟩
instance tze20 : TZero Try.prog 20 (.nilif) := ⟨by kernel_rfl, rfl, by decide⟩
instance tsh21 : TSh Try.prog 21 .one := ⟨by kernel_rfl⟩
instance tcl21 : TCells Try.prog 21 1 := ⟨by kernel_rfl, by decide⟩
instance tze21 : TZero Try.prog 21 (.int .i32 0) := ⟨by kernel_rfl, rfl, by decide⟩
instance tsh22 : TSh Try.prog 22 (.many 2) := ⟨by kernel_rfl⟩
instance tcl22 : TCells Try.prog 22 2 := ⟨by kernel_rfl, by decide⟩
instance tfl22x0 : TField Try.prog 22 0 0 3 := ⟨by kernel_rfl, kne (k := 1) (by kernel_rfl) (by decide)⟩
instance tfl22x1 : TField Try.prog 22 1 1 3 := ⟨by kernel_rfl, kne (k := 1) (by kernel_rfl) (by decide)⟩
instance tly22 : TLay Try.prog 22 [.int .i64 0, .int .i64 0] [(0, 1), (1, 1)] := ⟨by kernel_rfl⟩
instance tze22 : TZero Try.prog 22 (.agg [.int .i64 0, .int .i64 0]) := ⟨by kernel_rfl, rfl, by decide⟩
instance tsh23 : TSh Try.prog 23 (.many 2) := ⟨by kernel_rfl⟩
instance tcl23 : TCells Try.prog 23 2 := ⟨by kernel_rfl, by decide⟩
instance tfl23x0 : TField Try.prog 23 0 0 3 := ⟨by kernel_rfl, kne (k := 1) (by kernel_rfl) (by decide)⟩
instance tfl23x1 : TField Try.prog 23 1 1 3 := ⟨by kernel_rfl, kne (k := 1) (by kernel_rfl) (by decide)⟩
instance tly23 : TLay Try.prog 23 [.int .i64 0, .int .i64 0] [(0, 1), (1, 1)] := ⟨by kernel_rfl⟩
instance tze23 : TZero Try.prog 23 (.agg [.int .i64 0, .int .i64 0]) := ⟨by kernel_rfl, rfl, by decide⟩
instance tsh24 : TSh Try.prog 24 (.many 8) := ⟨by kernel_rfl⟩
instance tcl24 : TCells Try.prog 24 8 := ⟨by kernel_rfl, by decide⟩
instance tze24 : TZero Try.prog 24 (.agg [.int .i64 0, .int .i64 0, .int .i64 0, .int .i64 0, .int .i64 0, .int .i64 0, .int .i64 0, .int .i64 0]) := ⟨by kernel_rfl, rfl, by decide⟩
instance tsh25 : TSh Try.prog 25 .one := ⟨by kernel_rfl⟩
instance tcl25 : TCells Try.prog 25 1 := ⟨by kernel_rfl, by decide⟩
instance tze25 : TZero Try.prog 25 (.nilfunc) := ⟨by kernel_rfl, rfl, by decide⟩
instance tsh26 : TSh Try.prog 26 .one := ⟨by kernel_rfl⟩
instance tcl26 : TCells Try.prog 26 1 := ⟨by kernel_rfl, by decide⟩
instance tze26 : TZero Try.prog 26 (.int .i64 0) := ⟨by kernel_rfl, rfl, by decide⟩
instance tsh27 : TSh Try.prog 27 .one := ⟨by kernel_rfl⟩
instance tcl27 : TCells Try.prog 27 1 := ⟨by kernel_rfl, by decide⟩
instance tsh28 : TSh Try.prog 28 .one := ⟨by kernel_rfl⟩
instance tcl28 : TCells Try.prog 28 1 := ⟨by kernel_rfl, by decide⟩
instance tze28 : TZero Try.prog 28 (.nilfunc) := ⟨by kernel_rfl, rfl, by decide⟩
instance tsh29 : TSh Try.prog 29 .one := ⟨by kernel_rfl⟩
instance tcl29 : TCells Try.prog 29 1 := ⟨by kernel_rfl, by decide⟩
instance tze29 : TZero Try.prog 29 (.nilfunc) := ⟨by kernel_rfl, rfl, by decide⟩
instance tsh30 : TSh Try.prog 30 .one := ⟨by kernel_rfl⟩
instance tcl30 : TCells Try.prog 30 1 := ⟨by kernel_rfl, by decide⟩
instance tze30 : TZero Try.prog 30 (.nilfunc) := ⟨by kernel_rfl, rfl, by decide⟩
instance tsh31 : TSh Try.prog 31 .one := ⟨by kernel_rfl⟩
instance tcl31 : TCells Try.prog 31 1 := ⟨by kernel_rfl, by decide⟩
instance tsl31 : TSlice Try.prog 31 23 2 := ⟨by kernel_rfl, by kernel_rfl, by decide⟩
instance tze31 : TZero Try.prog 31 (.nilsl) := ⟨by kernel_rfl, rfl, by decide⟩
instance tsh32 : TSh Try.prog 32 .one := ⟨by kernel_rfl⟩
instance tcl32 : TCells Try.prog 32 1 := ⟨by kernel_rfl, by decide⟩
instance tze32 : TZero Try.prog 32 (.nilfunc) := ⟨by kernel_rfl, rfl, by decide⟩
instance tsh33 : TSh Try.prog 33 .one := ⟨by kernel_rfl⟩
instance tcl33 : TCells Try.prog 33 1 := ⟨by kernel_rfl, by decide⟩
instance tze33 : TZero Try.prog 33 (.nilfunc) := ⟨by kernel_rfl, rfl, by decide⟩
instance tsh34 : TSh Try.prog 34 .one := ⟨by kernel_rfl⟩
instance tcl34 : TCells Try.prog 34 1 := ⟨by kernel_rfl, by decide⟩
instance tze34 : TZero Try.prog 34 (.nilfunc) := ⟨by kernel_rfl, rfl, by decide⟩
instance tsh35 : TSh Try.prog 35 .one := ⟨by kernel_rfl⟩
instance tcl35 : TCells Try.prog 35 1 := ⟨by kernel_rfl, by decide⟩
instance tsh36 : TSh Try.prog 36 .one := ⟨by kernel_rfl⟩
instance tcl36 : TCells Try.prog 36 1 := ⟨by kernel_rfl, by decide⟩
instance tze36 : TZero Try.prog 36 (.nilfunc) := ⟨by kernel_rfl, rfl, by decide⟩
instance tsh37 : TSh Try.prog 37 .one := ⟨by kernel_rfl⟩
instance tcl37 : TCells Try.prog 37 1 := ⟨by kernel_rfl, by decide⟩
instance tze37 : TZero Try.prog 37 (.nilfunc) := ⟨by kernel_rfl, rfl, by decide⟩
instance tsh38 : TSh Try.prog 38 .one := ⟨by kernel_rfl⟩
instance tcl38 : TCells Try.prog 38 1 := ⟨by kernel_rfl, by decide⟩
instance tze38 : TZero Try.prog 38 (.nilfunc) := ⟨by kernel_rfl, rfl, by decide⟩
instance tsh39 : TSh Try.prog 39 .one := ⟨by kernel_rfl⟩
instance tcl39 : TCells Try.prog 39 1 := ⟨by kernel_rfl, by decide⟩
instance tze39 : TZero Try.prog 39 (.nilfunc) := ⟨by kernel_rfl, rfl, by decide⟩
instance tsh40 : TSh Try.prog 40 .one := ⟨by kernel_rfl⟩
instance tcl40 : TCells Try.prog 40 1 := ⟨by kernel_rfl, by decide⟩
instance tze40 : TZero Try.prog 40 (.nilfunc) := ⟨by kernel_rfl, rfl, by decide⟩
instance tsh41 : TSh Try.prog 41 .one := ⟨by kernel_rfl⟩
instance tcl41 : TCells Try.prog 41 1 := ⟨by kernel_rfl, by decide⟩
instance tsl41 : TSlice Try.prog 41 47 3 := ⟨by kernel_rfl, by kernel_rfl, by decide⟩
instance tze41 : TZero Try.prog 41 (.nilsl) := ⟨by kernel_rfl, rfl, by decide⟩
instance tsh42 : TSh Try.prog 42 .one := ⟨by kernel_rfl⟩
instance tcl42 : TCells Try.prog 42 1 := ⟨by kernel_rfl, by decide⟩
instance tsh43 : TSh Try.prog 43 .one := ⟨by kernel_rfl⟩
instance tcl43 : TCells Try.prog 43 1 := ⟨by kernel_rfl, by decide⟩
instance tze43 : TZero Try.prog 43 (.nilfunc) := ⟨by kernel_rfl, rfl, by decide⟩
instance tsh44 : TSh Try.prog 44 .one := ⟨by kernel_rfl⟩
instance tcl44 : TCells Try.prog 44 1 := ⟨by kernel_rfl, by decide⟩
instance tze44 : TZero Try.prog 44 (.nilfunc) := ⟨by kernel_rfl, rfl, by decide⟩
instance tsh45 : TSh Try.prog 45 .one := ⟨by kernel_rfl⟩
instance tcl45 : TCells Try.prog 45 1 := ⟨by kernel_rfl, by decide⟩
instance tze45 : TZero Try.prog 45 (.nilfunc) := ⟨by kernel_rfl, rfl, by decide⟩
instance tsh46 : TSh Try.prog 46 (.many 3) := ⟨by kernel_rfl⟩
instance tcl46 : TCells Try.prog 46 3 := ⟨by kernel_rfl, by decide⟩
instance tfl46x0 : TField Try.prog 46 0 0 3 := ⟨by kernel_rfl, kne (k := 1) (by kernel_rfl) (by decide)⟩
instance tfl46x1 : TField Try.prog 46 1 1 3 := ⟨by kernel_rfl, kne (k := 1) (by kernel_rfl) (by decide)⟩
instance tfl46x2 : TField Try.prog 46 2 2 3 := ⟨by kernel_rfl, kne (k := 1) (by kernel_rfl) (by decide)⟩
instance tly46 : TLay Try.prog 46 [.int .i64 0, .int .i64 0, .int .i64 0] [(0, 1), (1, 1), (2, 1)] := ⟨by kernel_rfl⟩
instance tze46 : TZero Try.prog 46 (.agg [.int .i64 0, .int .i64 0, .int .i64 0]) := ⟨by kernel_rfl, rfl, by decide⟩
instance tsh47 : TSh Try.prog 47 (.many 3) := ⟨by kernel_rfl⟩
instance tcl47 : TCells Try.prog 47 3 := ⟨by kernel_rfl, by decide⟩
instance tfl47x0 : TField Try.prog 47 0 0 3 := ⟨by kernel_rfl, kne (k := 1) (by kernel_rfl) (by decide)⟩
instance tfl47x1 : TField Try.prog 47 1 1 3 := ⟨by kernel_rfl, kne (k := 1) (by kernel_rfl) (by decide)⟩
instance tfl47x2 : TField Try.prog 47 2 2 3 := ⟨by kernel_rfl, kne (k := 1) (by kernel_rfl) (by decide)⟩
instance tly47 : TLay Try.prog 47 [.int .i64 0, .int .i64 0, .int .i64 0] [(0, 1), (1, 1), (2, 1)] := ⟨by kernel_rfl⟩
instance tze47 : TZero Try.prog 47 (.agg [.int .i64 0, .int .i64 0, .int .i64 0]) := ⟨by kernel_rfl, rfl, by decide⟩
instance tsh48 : TSh Try.prog 48 .one := ⟨by kernel_rfl⟩
instance tcl48 : TCells Try.prog 48 1 := ⟨by kernel_rfl, by decide⟩
instance tze48 : TZero Try.prog 48 (.nilfunc) := ⟨by kernel_rfl, rfl, by decide⟩
instance tsh49 : TSh Try.prog 49 .one := ⟨by kernel_rfl⟩
instance tcl49 : TCells Try.prog 49 1 := ⟨by kernel_rfl, by decide⟩
instance tze49 : TZero Try.prog 49 (.nilfunc) := ⟨by kernel_rfl, rfl, by decide⟩
instance tsh50 : TSh Try.prog 50 .one := ⟨by kernel_rfl⟩
instance tcl50 : TCells Try.prog 50 1 := ⟨by kernel_rfl, by decide⟩
instance tze50 : TZero Try.prog 50 (.nilfunc) := ⟨by kernel_rfl, rfl, by decide⟩
instance tsh51 : TSh Try.prog 51 .one := ⟨by kernel_rfl⟩
instance tcl51 : TCells Try.prog 51 1 := ⟨by kernel_rfl, by decide⟩
instance tze51 : TZero Try.prog 51 (.nilfunc) := ⟨by kernel_rfl, rfl, by decide⟩
instance tsh52 : TSh Try.prog 52 .one := ⟨by kernel_rfl⟩
instance tcl52 : TCells Try.prog 52 1 := ⟨by kernel_rfl, by decide⟩
instance tze52 : TZero Try.prog 52 (.nilfunc) := ⟨by kernel_rfl, rfl, by decide⟩
instance tsh53 : TSh Try.prog 53 .one := ⟨by kernel_rfl⟩
instance tcl53 : TCells Try.prog 53 1 := ⟨by kernel_rfl, by decide⟩
instance tze53 : TZero Try.prog 53 (.nilfunc) := ⟨by kernel_rfl, rfl, by decide⟩
instance tsh54 : TSh Try.prog 54 .one := ⟨by kernel_rfl⟩
instance tcl54 : TCells Try.prog 54 1 := ⟨by kernel_rfl, by decide⟩
instance tze54 : TZero Try.prog 54 (.nilfunc) := ⟨by kernel_rfl, rfl, by decide⟩
instance tsh55 : TSh Try.prog 55 .one := ⟨by kernel_rfl⟩
instance tcl55 : TCells Try.prog 55 1 := ⟨by kernel_rfl, by decide⟩
instance tsh56 : TSh Try.prog 56 .one := ⟨by kernel_rfl⟩
instance tcl56 : TCells Try.prog 56 1 := ⟨by kernel_rfl, by decide⟩
instance tze56 : TZero Try.prog 56 (.nilfunc) := ⟨by kernel_rfl, rfl, by decide⟩
instance tsh57 : TSh Try.prog 57 .one := ⟨by kernel_rfl⟩
instance tcl57 : TCells Try.prog 57 1 := ⟨by kernel_rfl, by decide⟩
instance tze57 : TZero Try.prog 57 (.nilfunc) := ⟨by kernel_rfl, rfl, by decide⟩
instance tsh58 : TSh Try.prog 58 .one := ⟨by kernel_rfl⟩
instance tcl58 : TCells Try.prog 58 1 := ⟨by kernel_rfl, by decide⟩
instance tze58 : TZero Try.prog 58 (.nilfunc) := ⟨by kernel_rfl, rfl, by decide⟩
instance tsh59 : TSh Try.prog 59 .one := ⟨by kernel_rfl⟩
instance tcl59 : TCells Try.prog 59 1 := ⟨by kernel_rfl, by decide⟩
instance tze59 : TZero Try.prog 59 (.nilfunc) := ⟨by kernel_rfl, rfl, by decide⟩
instance tsh60 : TSh Try.prog 60 .one := ⟨by kernel_rfl⟩
instance tcl60 : TCells Try.prog 60 1 := ⟨by kernel_rfl, by decide⟩
instance tsl60 : TSlice Try.prog 60 76 3 := ⟨by kernel_rfl, by kernel_rfl, by decide⟩
instance tze60 : TZero Try.prog 60 (.nilsl) := ⟨by kernel_rfl, rfl, by decide⟩
instance tsh61 : TSh Try.prog 61 (.many 7) := ⟨by kernel_rfl⟩
instance tcl61 : TCells Try.prog 61 7 := ⟨by kernel_rfl, by decide⟩
instance tfl61x0 : TField Try.prog 61 0 0 60 := ⟨by kernel_rfl, kne (k := 1) (by kernel_rfl) (by decide)⟩
instance tfl61x1 : TField Try.prog 61 1 1 47 := ⟨by kernel_rfl, kne (k := 3) (by kernel_rfl) (by decide)⟩
instance tfl61x2 : TField Try.prog 61 2 4 23 := ⟨by kernel_rfl, kne (k := 2) (by kernel_rfl) (by decide)⟩
instance tfl61x3 : TField Try.prog 61 3 6 3 := ⟨by kernel_rfl, kne (k := 1) (by kernel_rfl) (by decide)⟩
instance tly61 : TLay Try.prog 61 [.nilsl, .int .i64 0, .int .i64 0, .int .i64 0, .int .i64 0, .int .i64 0, .int .i64 0] [(0, 1), (1, 3), (4, 2), (6, 1)] := ⟨by kernel_rfl⟩
instance tze61 : TZero Try.prog 61 (.agg [.nilsl, .int .i64 0, .int .i64 0, .int .i64 0, .int .i64 0, .int .i64 0, .int .i64 0]) := ⟨by kernel_rfl, rfl, by decide⟩
instance tsh62 : TSh Try.prog 62 (.many 7) := ⟨by kernel_rfl⟩
instance tcl62 : TCells Try.prog 62 7 := ⟨by kernel_rfl, by decide⟩
instance tfl62x0 : TField Try.prog 62 0 0 60 := ⟨by kernel_rfl, kne (k := 1) (by kernel_rfl) (by decide)⟩
instance tfl62x1 : TField Try.prog 62 1 1 47 := ⟨by kernel_rfl, kne (k := 3) (by kernel_rfl) (by decide)⟩
instance tfl62x2 : TField Try.prog 62 2 4 23 := ⟨by kernel_rfl, kne (k := 2) (by kernel_rfl) (by decide)⟩
instance tfl62x3 : TField Try.prog 62 3 6 3 := ⟨by kernel_rfl, kne (k := 1) (by kernel_rfl) (by decide)⟩
instance tly62 : TLay Try.prog 62 [.nilsl, .int .i64 0, .int .i64 0, .int .i64 0, .int .i64 0, .int .i64 0, .int .i64 0] [(0, 1), (1, 3), (4, 2), (6, 1)] := ⟨by kernel_rfl⟩
instance tze62 : TZero Try.prog 62 (.agg [.nilsl, .int .i64 0, .int .i64 0, .int .i64 0, .int .i64 0, .int .i64 0, .int .i64 0]) := ⟨by kernel_rfl, rfl, by decide⟩
instance tsh63 : TSh Try.prog 63 (.many 2) := ⟨by kernel_rfl⟩
instance tcl63 : TCells Try.prog 63 2 := ⟨by kernel_rfl, by decide⟩
instance tfl63x0 : TField Try.prog 63 0 0 3 := ⟨by kernel_rfl, kne (k := 1) (by kernel_rfl) (by decide)⟩
instance tfl63x1 : TField Try.prog 63 1 1 3 := ⟨by kernel_rfl, kne (k := 1) (by kernel_rfl) (by decide)⟩
instance tly63 : TLay Try.prog 63 [.int .i64 0, .int .i64 0] [(0, 1), (1, 1)] := ⟨by kernel_rfl⟩
instance tze63 : TZero Try.prog 63 (.agg [.int .i64 0, .int .i64 0]) := ⟨by kernel_rfl, rfl, by decide⟩
instance tsh64 : TSh Try.prog 64 (.many 2) := ⟨by kernel_rfl⟩
instance tcl64 : TCells Try.prog 64 2 := ⟨by kernel_rfl, by decide⟩
instance tfl64x0 : TField Try.prog 64 0 0 3 := ⟨by kernel_rfl, kne (k := 1) (by kernel_rfl) (by decide)⟩
instance tfl64x1 : TField Try.prog 64 1 1 3 := ⟨by kernel_rfl, kne (k := 1) (by kernel_rfl) (by decide)⟩
instance tly64 : TLay Try.prog 64 [.int .i64 0, .int .i64 0] [(0, 1), (1, 1)] := ⟨by kernel_rfl⟩
instance tze64 : TZero Try.prog 64 (.agg [.int .i64 0, .int .i64 0]) := ⟨by kernel_rfl, rfl, by decide⟩
instance tsh65 : TSh Try.prog 65 .one := ⟨by kernel_rfl⟩
instance tcl65 : TCells Try.prog 65 1 := ⟨by kernel_rfl, by decide⟩
instance tsh66 : TSh Try.prog 66 .one := ⟨by kernel_rfl⟩
instance tcl66 : TCells Try.prog 66 1 := ⟨by kernel_rfl, by decide⟩
instance tze66 : TZero Try.prog 66 (.nilfunc) := ⟨by kernel_rfl, rfl, by decide⟩
instance tsh67 : TSh Try.prog 67 .one := ⟨by kernel_rfl⟩
instance tcl67 : TCells Try.prog 67 1 := ⟨by kernel_rfl, by decide⟩
instance tze67 : TZero Try.prog 67 (.nilfunc) := ⟨by kernel_rfl, rfl, by decide⟩
instance tsh68 : TSh Try.prog 68 .one := ⟨by kernel_rfl⟩
instance tcl68 : TCells Try.prog 68 1 := ⟨by kernel_rfl, by decide⟩
instance tze68 : TZero Try.prog 68 (.nilfunc) := ⟨by kernel_rfl, rfl, by decide⟩
instance tsh69 : TSh Try.prog 69 .one := ⟨by kernel_rfl⟩
instance tcl69 : TCells Try.prog 69 1 := ⟨by kernel_rfl, by decide⟩
instance tze69 : TZero Try.prog 69 (.nilfunc) := ⟨by kernel_rfl, rfl, by decide⟩
instance tsh70 : TSh Try.prog 70 .one := ⟨by kernel_rfl⟩
instance tcl70 : TCells Try.prog 70 1 := ⟨by kernel_rfl, by decide⟩
instance tze70 : TZero Try.prog 70 (.nilfunc) := ⟨by kernel_rfl, rfl, by decide⟩
instance tsh71 : TSh Try.prog 71 .one := ⟨by kernel_rfl⟩
instance tcl71 : TCells Try.prog 71 1 := ⟨by kernel_rfl, by decide⟩
instance tze71 : TZero Try.prog 71 (.nilfunc) := ⟨by kernel_rfl, rfl, by decide⟩
instance tsh72 : TSh Try.prog 72 .one := ⟨by kernel_rfl⟩
instance tcl72 : TCells Try.prog 72 1 := ⟨by kernel_rfl, by decide⟩
instance tze72 : TZero Try.prog 72 (.int .i8 0) := ⟨by kernel_rfl, rfl, by decide⟩
instance tsh73 : TSh Try.prog 73 (.many 3) := ⟨by kernel_rfl⟩
instance tcl73 : TCells Try.prog 73 3 := ⟨by kernel_rfl, by decide⟩
instance tze73 : TZero Try.prog 73 (.agg [.int .i8 0, .int .i8 0, .int .i8 0]) := ⟨by kernel_rfl, rfl, by decide⟩
instance tsh74 : TSh Try.prog 74 .one := ⟨by kernel_rfl⟩
instance tcl74 : TCells Try.prog 74 1 := ⟨by kernel_rfl, by decide⟩
instance tze74 : TZero Try.prog 74 (.nilfunc) := ⟨by kernel_rfl, rfl, by decide⟩
instance tsh75 : TSh Try.prog 75 (.many 3) := ⟨by kernel_rfl⟩
instance tcl75 : TCells Try.prog 75 3 := ⟨by kernel_rfl, by decide⟩
instance tfl75x0 : TField Try.prog 75 0 0 3 := ⟨by kernel_rfl, kne (k := 1) (by kernel_rfl) (by decide)⟩
instance tfl75x1 : TField Try.prog 75 1 1 3 := ⟨by kernel_rfl, kne (k := 1) (by kernel_rfl) (by decide)⟩
instance tfl75x2 : TField Try.prog 75 2 2 3 := ⟨by kernel_rfl, kne (k := 1) (by kernel_rfl) (by decide)⟩
instance tly75 : TLay Try.prog 75 [.int .i64 0, .int .i64 0, .int .i64 0] [(0, 1), (1, 1), (2, 1)] := ⟨by kernel_rfl⟩
instance tze75 : TZero Try.prog 75 (.agg [.int .i64 0, .int .i64 0, .int .i64 0]) := ⟨by kernel_rfl, rfl, by decide⟩
instance tsh76 : TSh Try.prog 76 (.many 3) := ⟨by kernel_rfl⟩
instance tcl76 : TCells Try.prog 76 3 := ⟨by kernel_rfl, by decide⟩
instance tfl76x0 : TField Try.prog 76 0 0 3 := ⟨by kernel_rfl, kne (k := 1) (by kernel_rfl) (by decide)⟩
instance tfl76x1 : TField Try.prog 76 1 1 3 := ⟨by kernel_rfl, kne (k := 1) (by kernel_rfl) (by decide)⟩
instance tfl76x2 : TField Try.prog 76 2 2 3 := ⟨by kernel_rfl, kne (k := 1) (by kernel_rfl) (by decide)⟩
instance tly76 : TLay Try.prog 76 [.int .i64 0, .int .i64 0, .int .i64 0] [(0, 1), (1, 1), (2, 1)] := ⟨by kernel_rfl⟩
instance tze76 : TZero Try.prog 76 (.agg [.int .i64 0, .int .i64 0, .int .i64 0]) := ⟨by kernel_rfl, rfl, by decide⟩
instance tsh77 : TSh Try.prog 77 .one := ⟨by kernel_rfl⟩
instance tcl77 : TCells Try.prog 77 1 := ⟨by kernel_rfl, by decide⟩
instance tze77 : TZero Try.prog 77 (.nilfunc) := ⟨by kernel_rfl, rfl, by decide⟩
instance tsh78 : TSh Try.prog 78 .one := ⟨by kernel_rfl⟩
instance tcl78 : TCells Try.prog 78 1 := ⟨by kernel_rfl, by decide⟩
instance tze78 : TZero Try.prog 78 (.nilfunc) := ⟨by kernel_rfl, rfl, by decide⟩
instance tsh79 : TSh Try.prog 79 .one := ⟨by kernel_rfl⟩
instance tcl79 : TCells Try.prog 79 1 := ⟨by kernel_rfl, by decide⟩
instance tze79 : TZero Try.prog 79 (.nilfunc) := ⟨by kernel_rfl, rfl, by decide⟩
instance tsh80 : TSh Try.prog 80 .one := ⟨by kernel_rfl⟩
instance tcl80 : TCells Try.prog 80 1 := ⟨by kernel_rfl, by decide⟩
instance tsh81 : TSh Try.prog 81 .one := ⟨by kernel_rfl⟩
instance tcl81 : TCells Try.prog 81 1 := ⟨by kernel_rfl, by decide⟩
instance tze81 : TZero Try.prog 81 (.nilfunc) := ⟨by kernel_rfl, rfl, by decide⟩
instance tsh82 : TSh Try.prog 82 .one := ⟨by kernel_rfl⟩
instance tcl82 : TCells Try.prog 82 1 := ⟨by kernel_rfl, by decide⟩
instance tze82 : TZero Try.prog 82 (.nilfunc) := ⟨by kernel_rfl, rfl, by decide⟩
instance tsh83 : TSh Try.prog 83 .one := ⟨by kernel_rfl⟩
instance tcl83 : TCells Try.prog 83 1 := ⟨by kernel_rfl, by decide⟩
instance tze83 : TZero Try.prog 83 (.nilfunc) := ⟨by kernel_rfl, rfl, by decide⟩
instance tsh84 : TSh Try.prog 84 .one := ⟨by kernel_rfl⟩
instance tcl84 : TCells Try.prog 84 1 := ⟨by kernel_rfl, by decide⟩
instance tze84 : TZero Try.prog 84 (.nilfunc) := ⟨by kernel_rfl, rfl, by decide⟩
instance tsh85 : TSh Try.prog 85 .one := ⟨by kernel_rfl⟩
instance tcl85 : TCells Try.prog 85 1 := ⟨by kernel_rfl, by decide⟩
instance tze85 : TZero Try.prog 85 (.nilfunc) := ⟨by kernel_rfl, rfl, by decide⟩
instance tsh86 : TSh Try.prog 86 .one := ⟨by kernel_rfl⟩
instance tcl86 : TCells Try.prog 86 1 := ⟨by kernel_rfl, by decide⟩
instance tze86 : TZero Try.prog 86 (.nilfunc) := ⟨by kernel_rfl, rfl, by decide⟩
instance tsh87 : TSh Try.prog 87 .one := ⟨by kernel_rfl⟩
instance tcl87 : TCells Try.prog 87 1 := ⟨by kernel_rfl, by decide⟩
instance tze87 : TZero Try.prog 87 (.nilfunc) := ⟨by kernel_rfl, rfl, by decide⟩
instance tsh88 : TSh Try.prog 88 .one := ⟨by kernel_rfl⟩
instance tcl88 : TCells Try.prog 88 1 := ⟨by kernel_rfl, by decide⟩
instance tze88 : TZero Try.prog 88 (.nilfunc) := ⟨by kernel_rfl, rfl, by decide⟩
instance tsh89 : TSh Try.prog 89 .one := ⟨by kernel_rfl⟩
instance tcl89 : TCells Try.prog 89 1 := ⟨by kernel_rfl, by decide⟩
instance tze89 : TZero Try.prog 89 (.nilfunc) := ⟨by kernel_rfl, rfl, by decide⟩
instance tsh90 : TSh Try.prog 90 .one := ⟨by kernel_rfl⟩
instance tcl90 : TCells Try.prog 90 1 := ⟨by kernel_rfl, by decide⟩
instance tze90 : TZero Try.prog 90 (.nilfunc) := ⟨by kernel_rfl, rfl, by decide⟩
instance tsh91 : TSh Try.prog 91 .one := ⟨by kernel_rfl⟩
instance tcl91 : TCells Try.prog 91 1 := ⟨by kernel_rfl, by decide⟩
instance tze91 : TZero Try.prog 91 (.nilfunc) := ⟨by kernel_rfl, rfl, by decide⟩
instance tsh92 : TSh Try.prog 92 (.many 6) := ⟨by kernel_rfl⟩
instance tcl92 : TCells Try.prog 92 6 := ⟨by kernel_rfl, by decide⟩
instance tze92 : TZero Try.prog 92 (.agg [.int .i64 0, .int .i64 0, .int .i64 0, .int .i64 0, .int .i64 0, .int .i64 0]) := ⟨by kernel_rfl, rfl, by decide⟩
instance tsh93 : TSh Try.prog 93 .one := ⟨by kernel_rfl⟩
instance tcl93 : TCells Try.prog 93 1 := ⟨by kernel_rfl, by decide⟩
instance tze93 : TZero Try.prog 93 (.nilfunc) := ⟨by kernel_rfl, rfl, by decide⟩
instance tsh94 : TSh Try.prog 94 .one := ⟨by kernel_rfl⟩
instance tcl94 : TCells Try.prog 94 1 := ⟨by kernel_rfl, by decide⟩
instance tze94 : TZero Try.prog 94 (.nilfunc) := ⟨by kernel_rfl, rfl, by decide⟩
instance tsh95 : TSh Try.prog 95 .one := ⟨by kernel_rfl⟩
instance tcl95 : TCells Try.prog 95 1 := ⟨by kernel_rfl, by decide⟩
instance tze95 : TZero Try.prog 95 (.nilfunc) := ⟨by kernel_rfl, rfl, by decide⟩
instance tsh96 : TSh Try.prog 96 .one := ⟨by kernel_rfl⟩
instance tcl96 : TCells Try.prog 96 1 := ⟨by kernel_rfl, by decide⟩
instance tze96 : TZero Try.prog 96 (.nilfunc) := ⟨by kernel_rfl, rfl, by decide⟩
instance tsh97 : TSh Try.prog 97 .one := ⟨by kernel_rfl⟩
instance tcl97 : TCells Try.prog 97 1 := ⟨by kernel_rfl, by decide⟩
instance tze97 : TZero Try.prog 97 (.nilfunc) := ⟨by kernel_rfl, rfl, by decide⟩
instance tsh98 : TSh Try.prog 98 (.many 2) := ⟨by kernel_rfl⟩
instance tcl98 : TCells Try.prog 98 2 := ⟨by kernel_rfl, by decide⟩
instance tfl98x0 : TField Try.prog 98 0 0 26 := ⟨by kernel_rfl, kne (k := 1) (by kernel_rfl) (by decide)⟩
instance tfl98x1 : TField Try.prog 98 1 1 30 := ⟨by kernel_rfl, kne (k := 1) (by kernel_rfl) (by decide)⟩
instance tly98 : TLay Try.prog 98 [.int .i64 0, .nilfunc] [(0, 1), (1, 1)] := ⟨by kernel_rfl⟩
instance tze98 : TZero Try.prog 98 (.agg [.int .i64 0, .nilfunc]) := ⟨by kernel_rfl, rfl, by decide⟩
instance tsh99 : TSh Try.prog 99 (.many 2) := ⟨by kernel_rfl⟩
instance tcl99 : TCells Try.prog 99 2 := ⟨by kernel_rfl, by decide⟩
instance tfl99x0 : TField Try.prog 99 0 0 26 := ⟨by kernel_rfl, kne (k := 1) (by kernel_rfl) (by decide)⟩
instance tfl99x1 : TField Try.prog 99 1 1 30 := ⟨by kernel_rfl, kne (k := 1) (by kernel_rfl) (by decide)⟩
instance tly99 : TLay Try.prog 99 [.int .i64 0, .nilfunc] [(0, 1), (1, 1)] := ⟨by kernel_rfl⟩
instance tze99 : TZero Try.prog 99 (.agg [.int .i64 0, .nilfunc]) := ⟨by kernel_rfl, rfl, by decide⟩
instance tsh100 : TSh Try.prog 100 (.many 8) := ⟨by kernel_rfl⟩
instance tcl100 : TCells Try.prog 100 8 := ⟨by kernel_rfl, by decide⟩
instance tze100 : TZero Try.prog 100 (.agg [.int .i64 0, .nilfunc, .int .i64 0, .nilfunc, .int .i64 0, .nilfunc, .int .i64 0, .nilfunc]) := ⟨by kernel_rfl, rfl, by decide⟩
instance tsh101 : TSh Try.prog 101 .one := ⟨by kernel_rfl⟩
instance tcl101 : TCells Try.prog 101 1 := ⟨by kernel_rfl, by decide⟩
instance tze101 : TZero Try.prog 101 (.nilfunc) := ⟨by kernel_rfl, rfl, by decide⟩
instance tsh102 : TSh Try.prog 102 (.many 9) := ⟨by kernel_rfl⟩
instance tcl102 : TCells Try.prog 102 9 := ⟨by kernel_rfl, by decide⟩
instance tze102 : TZero Try.prog 102 (.agg [.int .i64 0, .int .i64 0, .int .i64 0, .int .i64 0, .int .i64 0, .int .i64 0, .int .i64 0, .int .i64 0, .int .i64 0]) := ⟨by kernel_rfl, rfl, by decide⟩
instance tsh103 : TSh Try.prog 103 .one := ⟨by kernel_rfl⟩
instance tcl103 : TCells Try.prog 103 1 := ⟨by kernel_rfl, by decide⟩
instance tsh104 : TSh Try.prog 104 .one := ⟨by kernel_rfl⟩
instance tcl104 : TCells Try.prog 104 1 := ⟨by kernel_rfl, by decide⟩
instance tze104 : TZero Try.prog 104 (.nilfunc) := ⟨by kernel_rfl, rfl, by decide⟩
instance tsh105 : TSh Try.prog 105 .one := ⟨by kernel_rfl⟩
instance tcl105 : TCells Try.prog 105 1 := ⟨by kernel_rfl, by decide⟩
instance tze105 : TZero Try.prog 105 (.nilfunc) := ⟨by kernel_rfl, rfl, by decide⟩
instance tsh106 : TSh Try.prog 106 .one := ⟨by kernel_rfl⟩
instance tcl106 : TCells Try.prog 106 1 := ⟨by kernel_rfl, by decide⟩
instance tze106 : TZero Try.prog 106 (.nilfunc) := ⟨by kernel_rfl, rfl, by decide⟩
instance tsh107 : TSh Try.prog 107 .one := ⟨by kernel_rfl⟩
instance tcl107 : TCells Try.prog 107 1 := ⟨by kernel_rfl, by decide⟩
instance tze107 : TZero Try.prog 107 (.nilfunc) := ⟨by kernel_rfl, rfl, by decide⟩
instance tsh108 : TSh Try.prog 108 .one := ⟨by kernel_rfl⟩
instance tcl108 : TCells Try.prog 108 1 := ⟨by kernel_rfl, by decide⟩
instance tze108 : TZero Try.prog 108 (.nilfunc) := ⟨by kernel_rfl, rfl, by decide⟩
instance tsh109 : TSh Try.prog 109 .one := ⟨by kernel_rfl⟩
instance tcl109 : TCells Try.prog 109 1 := ⟨by kernel_rfl, by decide⟩
instance tze109 : TZero Try.prog 109 (.nilfunc) := ⟨by kernel_rfl, rfl, by decide⟩
instance tsh110 : TSh Try.prog 110 (.many 3) := ⟨by kernel_rfl⟩
instance tcl110 : TCells Try.prog 110 3 := ⟨by kernel_rfl, by decide⟩
instance tze110 : TZero Try.prog 110 (.agg [.int .i64 0, .int .i64 0, .int .i64 0]) := ⟨by kernel_rfl, rfl, by decide⟩
instance tsh111 : TSh Try.prog 111 .one := ⟨by kernel_rfl⟩
instance tcl111 : TCells Try.prog 111 1 := ⟨by kernel_rfl, by decide⟩
instance tze111 : TZero Try.prog 111 (.nilfunc) := ⟨by kernel_rfl, rfl, by decide⟩
instance tsh112 : TSh Try.prog 112 .one := ⟨by kernel_rfl⟩
instance tcl112 : TCells Try.prog 112 1 := ⟨by kernel_rfl, by decide⟩
instance tze112 : TZero Try.prog 112 (.nilfunc) := ⟨by kernel_rfl, rfl, by decide⟩
instance tsh113 : TSh Try.prog 113 .one := ⟨by kernel_rfl⟩
instance tcl113 : TCells Try.prog 113 1 := ⟨by kernel_rfl, by decide⟩
instance tze113 : TZero Try.prog 113 (.nilfunc) := ⟨by kernel_rfl, rfl, by decide⟩
instance tsh114 : TSh Try.prog 114 .one := ⟨by kernel_rfl⟩
instance tcl114 : TCells Try.prog 114 1 := ⟨by kernel_rfl, by decide⟩
instance tze114 : TZero Try.prog 114 (.nilfunc) := ⟨by kernel_rfl, rfl, by decide⟩
instance tsh115 : TSh Try.prog 115 .one := ⟨by kernel_rfl⟩
instance tcl115 : TCells Try.prog 115 1 := ⟨by kernel_rfl, by decide⟩
instance tze115 : TZero Try.prog 115 (.nilfunc) := ⟨by kernel_rfl, rfl, by decide⟩
instance tsh116 : TSh Try.prog 116 .one := ⟨by kernel_rfl⟩
instance tcl116 : TCells Try.prog 116 1 := ⟨by kernel_rfl, by decide⟩
instance tze116 : TZero Try.prog 116 (.nilfunc) := ⟨by kernel_rfl, rfl, by decide⟩
instance tsh117 : TSh Try.prog 117 .one := ⟨by kernel_rfl⟩
instance tcl117 : TCells Try.prog 117 1 := ⟨by kernel_rfl, by decide⟩
instance tze117 : TZero Try.prog 117 (.nilfunc) := ⟨by kernel_rfl, rfl, by decide⟩
instance tsh118 : TSh Try.prog 118 .one := ⟨by kernel_rfl⟩
instance tcl118 : TCells Try.prog 118 1 := ⟨by kernel_rfl, by decide⟩
instance tsh119 : TSh Try.prog 119 .one := ⟨by kernel_rfl⟩
instance tcl119 : TCells Try.prog 119 1 := ⟨by kernel_rfl, by decide⟩
instance tze119 : TZero Try.prog 119 (.nilfunc) := ⟨by kernel_rfl, rfl, by decide⟩
instance tsh120 : TSh Try.prog 120 .one := ⟨by kernel_rfl⟩
instance tcl120 : TCells Try.prog 120 1 := ⟨by kernel_rfl, by decide⟩
instance tze120 : TZero Try.prog 120 (.nilfunc) := ⟨by kernel_rfl, rfl, by decide⟩
instance tsh121 : TSh Try.prog 121 .one := ⟨by kernel_rfl⟩
instance tcl121 : TCells Try.prog 121 1 := ⟨by kernel_rfl, by decide⟩
instance tze121 : TZero Try.prog 121 (.nilfunc) := ⟨by kernel_rfl, rfl, by decide⟩
instance tsh122 : TSh Try.prog 122 .one := ⟨by kernel_rfl⟩
instance tcl122 : TCells Try.prog 122 1 := ⟨by kernel_rfl, by decide⟩
instance tze122 : TZero Try.prog 122 (.nilfunc) := ⟨by kernel_rfl, rfl, by decide⟩
instance tsh123 : TSh Try.prog 123 .one := ⟨by kernel_rfl⟩
instance tcl123 : TCells Try.prog 123 1 := ⟨by kernel_rfl, by decide⟩
instance tze123 : TZero Try.prog 123 (.int .u64 0) := ⟨by kernel_rfl, rfl, by decide⟩
instance tsh124 : TSh Try.prog 124 .one := ⟨by kernel_rfl⟩
instance tcl124 : TCells Try.prog 124 1 := ⟨by kernel_rfl, by decide⟩
instance tze124 : TZero Try.prog 124 (.nilfunc) := ⟨by kernel_rfl, rfl, by decide⟩
instance tsh125 : TSh Try.prog 125 .one := ⟨by kernel_rfl⟩
instance tcl125 : TCells Try.prog 125 1 := ⟨by kernel_rfl, by decide⟩
instance tsl125 : TSlice Try.prog 125 3 1 := ⟨by kernel_rfl, by kernel_rfl, by decide⟩
instance tze125 : TZero Try.prog 125 (.nilsl) := ⟨by kernel_rfl, rfl, by decide⟩
instance tsh126 : TSh Try.prog 126 .one := ⟨by kernel_rfl⟩
instance tcl126 : TCells Try.prog 126 1 := ⟨by kernel_rfl, by decide⟩
instance tze126 : TZero Try.prog 126 (.nilfunc) := ⟨by kernel_rfl, rfl, by decide⟩
instance tsh127 : TSh Try.prog 127 .one := ⟨by kernel_rfl⟩
instance tcl127 : TCells Try.prog 127 1 := ⟨by kernel_rfl, by decide⟩
instance tze127 : TZero Try.prog 127 (.int .i64 0) := ⟨by kernel_rfl, rfl, by decide⟩
instance tsh128 : TSh Try.prog 128 .one := ⟨by kernel_rfl⟩
instance tcl128 : TCells Try.prog 128 1 := ⟨by kernel_rfl, by decide⟩
instance tsh129 : TSh Try.prog 129 .one := ⟨by kernel_rfl⟩
instance tcl129 : TCells Try.prog 129 1 := ⟨by kernel_rfl, by decide⟩
instance tze129 : TZero Try.prog 129 (.nilfunc) := ⟨by kernel_rfl, rfl, by decide⟩
instance tsh130 : TSh Try.prog 130 .one := ⟨by kernel_rfl⟩
instance tcl130 : TCells Try.prog 130 1 := ⟨by kernel_rfl, by decide⟩
instance tze130 : TZero Try.prog 130 (.nilfunc) := ⟨by kernel_rfl, rfl, by decide⟩
instance tsh131 : TSh Try.prog 131 .one := ⟨by kernel_rfl⟩
instance tcl131 : TCells Try.prog 131 1 := ⟨by kernel_rfl, by decide⟩
instance tze131 : TZero Try.prog 131 (.nilfunc) := ⟨by kernel_rfl, rfl, by decide⟩
instance tsh132 : TSh Try.prog 132 .one := ⟨by kernel_rfl⟩
instance tcl132 : TCells Try.prog 132 1 := ⟨by kernel_rfl, by decide⟩
instance tsh133 : TSh Try.prog 133 .one := ⟨by kernel_rfl⟩
instance tcl133 : TCells Try.prog 133 1 := ⟨by kernel_rfl, by decide⟩
instance tze133 : TZero Try.prog 133 (.nilfunc) := ⟨by kernel_rfl, rfl, by decide⟩
instance tsh134 : TSh Try.prog 134 .one := ⟨by kernel_rfl⟩
instance tcl134 : TCells Try.prog 134 1 := ⟨by kernel_rfl, by decide⟩
instance tze134 : TZero Try.prog 134 (.nilfunc) := ⟨by kernel_rfl, rfl, by decide⟩
instance tsh135 : TSh Try.prog 135 .one := ⟨by kernel_rfl⟩
instance tcl135 : TCells Try.prog 135 1 := ⟨by kernel_rfl, by decide⟩
instance tze135 : TZero Try.prog 135 (.int .u32 0) := ⟨by kernel_rfl, rfl, by decide⟩
instance tsh136 : TSh Try.prog 136 .one := ⟨by kernel_rfl⟩
instance tcl136 : TCells Try.prog 136 1 := ⟨by kernel_rfl, by decide⟩
instance tze136 : TZero Try.prog 136 (.nilfunc) := ⟨by kernel_rfl, rfl, by decide⟩
instance tsh137 : TSh Try.prog 137 .one := ⟨by kernel_rfl⟩
instance tcl137 : TCells Try.prog 137 1 := ⟨by kernel_rfl, by decide⟩
instance tze137 : TZero Try.prog 137 (.int .u64 0) := ⟨by kernel_rfl, rfl, by decide⟩
instance tsh138 : TSh Try.prog 138 .one := ⟨by kernel_rfl⟩
instance tcl138 : TCells Try.prog 138 1 := ⟨by kernel_rfl, by decide⟩
instance tze138 : TZero Try.prog 138 (.nilfunc) := ⟨by kernel_rfl, rfl, by decide⟩
instance tsh139 : TSh Try.prog 139 .one := ⟨by kernel_rfl⟩
instance tcl139 : TCells Try.prog 139 1 := ⟨by kernel_rfl, by decide⟩
instance tze139 : TZero Try.prog 139 (.nilfunc) := ⟨by kernel_rfl, rfl, by decide⟩
instance tsh140 : TSh Try.prog 140 .one := ⟨by kernel_rfl⟩
instance tcl140 : TCells Try.prog 140 1 := ⟨by kernel_rfl, by decide⟩
instance tze140 : TZero Try.prog 140 (.nilfunc) := ⟨by kernel_rfl, rfl, by decide⟩
instance tsh141 : TSh Try.prog 141 .one := ⟨by kernel_rfl⟩
instance tcl141 : TCells Try.prog 141 1 := ⟨by kernel_rfl, by decide⟩
instance tze141 : TZero Try.prog 141 (.nilfunc) := ⟨by kernel_rfl, rfl, by decide⟩
instance tsh142 : TSh Try.prog 142 .one := ⟨by kernel_rfl⟩
instance tcl142 : TCells Try.prog 142 1 := ⟨by kernel_rfl, by decide⟩
instance tze142 : TZero Try.prog 142 (.nilfunc) := ⟨by kernel_rfl, rfl, by decide⟩
instance tsh143 : TSh Try.prog 143 .one := ⟨by kernel_rfl⟩
instance tcl143 : TCells Try.prog 143 1 := ⟨by kernel_rfl, by decide⟩
instance tze143 : TZero Try.prog 143 (.int .u64 0) := ⟨by kernel_rfl, rfl, by decide⟩
instance tsh144 : TSh Try.prog 144 .one := ⟨by kernel_rfl⟩
instance tcl144 : TCells Try.prog 144 1 := ⟨by kernel_rfl, by decide⟩
instance tze144 : TZero Try.prog 144 (.nilfunc) := ⟨by kernel_rfl, rfl, by decide⟩
instance tsh145 : TSh Try.prog 145 .one := ⟨by kernel_rfl⟩
instance tcl145 : TCells Try.prog 145 1 := ⟨by kernel_rfl, by decide⟩
instance tze145 : TZero Try.prog 145 (.nilfunc) := ⟨by kernel_rfl, rfl, by decide⟩
instance tsh146 : TSh Try.prog 146 .one := ⟨by kernel_rfl⟩
instance tcl146 : TCells Try.prog 146 1 := ⟨by kernel_rfl, by decide⟩
instance tze146 : TZero Try.prog 146 (.nilfunc) := ⟨by kernel_rfl, rfl, by decide⟩
instance tsh147 : TSh Try.prog 147 .one := ⟨by kernel_rfl⟩
instance tcl147 : TCells Try.prog 147 1 := ⟨by kernel_rfl, by decide⟩
instance tze147 : TZero Try.prog 147 (.nilptr) := ⟨by kernel_rfl, rfl, by decide⟩
instance tsh148 : TSh Try.prog 148 .one := ⟨by kernel_rfl⟩
instance tcl148 : TCells Try.prog 148 1 := ⟨by kernel_rfl, by decide⟩
instance tze148 : TZero Try.prog 148 (.nilfunc) := ⟨by kernel_rfl, rfl, by decide⟩
instance tsh149 : TSh Try.prog 149 .one := ⟨by kernel_rfl⟩
instance tcl149 : TCells Try.prog 149 1 := ⟨by kernel_rfl, by decide⟩
instance tze149 : TZero Try.prog 149 (.nilfunc) := ⟨by kernel_rfl, rfl, by decide⟩
instance tsh150 : TSh Try.prog 150 .one := ⟨by kernel_rfl⟩
instance tcl150 : TCells Try.prog 150 1 := ⟨by kernel_rfl, by decide⟩
instance tze150 : TZero Try.prog 150 (.nilfunc) := ⟨by kernel_rfl, rfl, by decide⟩
instance tsh151 : TSh Try.prog 151 .one := ⟨by kernel_rfl⟩
instance tcl151 : TCells Try.prog 151 1 := ⟨by kernel_rfl, by decide⟩
instance tze151 : TZero Try.prog 151 (.nilptr) := ⟨by kernel_rfl, rfl, by decide⟩
instance tsh152 : TSh Try.prog 152 .one := ⟨by kernel_rfl⟩
instance tcl152 : TCells Try.prog 152 1 := ⟨by kernel_rfl, by decide⟩
instance tze152 : TZero Try.prog 152 (.nilfunc) := ⟨by kernel_rfl, rfl, by decide⟩
instance tsh153 : TSh Try.prog 153 .one := ⟨by kernel_rfl⟩
instance tcl153 : TCells Try.prog 153 1 := ⟨by kernel_rfl, by decide⟩
instance tze153 : TZero Try.prog 153 (.nilfunc) := ⟨by kernel_rfl, rfl, by decide⟩
instance tsh154 : TSh Try.prog 154 .one := ⟨by kernel_rfl⟩
instance tcl154 : TCells Try.prog 154 1 := ⟨by kernel_rfl, by decide⟩
instance tze154 : TZero Try.prog 154 (.nilfunc) := ⟨by kernel_rfl, rfl, by decide⟩
instance tsh155 : TSh Try.prog 155 (.many 4) := ⟨by kernel_rfl⟩
instance tcl155 : TCells Try.prog 155 4 := ⟨by kernel_rfl, by decide⟩
instance tfl155x0 : TField Try.prog 155 0 0 17 := ⟨by kernel_rfl, kne (k := 1) (by kernel_rfl) (by decide)⟩
instance tfl155x1 : TField Try.prog 155 1 1 17 := ⟨by kernel_rfl, kne (k := 1) (by kernel_rfl) (by decide)⟩
instance tfl155x2 : TField Try.prog 155 2 2 17 := ⟨by kernel_rfl, kne (k := 1) (by kernel_rfl) (by decide)⟩
instance tfl155x3 : TField Try.prog 155 3 3 9 := ⟨by kernel_rfl, kne (k := 1) (by kernel_rfl) (by decide)⟩
instance tly155 : TLay Try.prog 155 [.nilptr, .nilptr, .nilptr, .str ByteArray.empty] [(0, 1), (1, 1), (2, 1), (3, 1)] := ⟨by kernel_rfl⟩
instance tze155 : TZero Try.prog 155 (.agg [.nilptr, .nilptr, .nilptr, .str ByteArray.empty]) := ⟨by kernel_rfl, rfl, by decide⟩
instance tsh156 : TSh Try.prog 156 (.many 4) := ⟨by kernel_rfl⟩
instance tcl156 : TCells Try.prog 156 4 := ⟨by kernel_rfl, by decide⟩
instance tfl156x0 : TField Try.prog 156 0 0 17 := ⟨by kernel_rfl, kne (k := 1) (by kernel_rfl) (by decide)⟩
instance tfl156x1 : TField Try.prog 156 1 1 17 := ⟨by kernel_rfl, kne (k := 1) (by kernel_rfl) (by decide)⟩
instance tfl156x2 : TField Try.prog 156 2 2 17 := ⟨by kernel_rfl, kne (k := 1) (by kernel_rfl) (by decide)⟩
instance tfl156x3 : TField Try.prog 156 3 3 9 := ⟨by kernel_rfl, kne (k := 1) (by kernel_rfl) (by decide)⟩
instance tly156 : TLay Try.prog 156 [.nilptr, .nilptr, .nilptr, .str ByteArray.empty] [(0, 1), (1, 1), (2, 1), (3, 1)] := ⟨by kernel_rfl⟩
instance tze156 : TZero Try.prog 156 (.agg [.nilptr, .nilptr, .nilptr, .str ByteArray.empty]) := ⟨by kernel_rfl, rfl, by decide⟩
instance tsh160 : TSh Try.prog 160 .one := ⟨by kernel_rfl⟩
instance tcl160 : TCells Try.prog 160 1 := ⟨by kernel_rfl, by decide⟩
instance tze160 : TZero Try.prog 160 (.nilfunc) := ⟨by kernel_rfl, rfl, by decide⟩
instance tsh161 : TSh Try.prog 161 .one := ⟨by kernel_rfl⟩
instance tcl161 : TCells Try.prog 161 1 := ⟨by kernel_rfl, by decide⟩
instance tze161 : TZero Try.prog 161 (.int .u8 0) := ⟨by kernel_rfl, rfl, by decide⟩
instance tsh162 : TSh Try.prog 162 .one := ⟨by kernel_rfl⟩
instance tcl162 : TCells Try.prog 162 1 := ⟨by kernel_rfl, by decide⟩
instance tze162 : TZero Try.prog 162 (.int .u8 0) := ⟨by kernel_rfl, rfl, by decide⟩
instance tsh163 : TSh Try.prog 163 .one := ⟨by kernel_rfl⟩
instance tcl163 : TCells Try.prog 163 1 := ⟨by kernel_rfl, by decide⟩
instance tze163 : TZero Try.prog 163 (.nilfunc) := ⟨by kernel_rfl, rfl, by decide⟩
instance tsh164 : TSh Try.prog 164 .one := ⟨by kernel_rfl⟩
instance tcl164 : TCells Try.prog 164 1 := ⟨by kernel_rfl, by decide⟩
instance tze164 : TZero Try.prog 164 (.nilptr) := ⟨by kernel_rfl, rfl, by decide⟩
instance tsh165 : TSh Try.prog 165 .one := ⟨by kernel_rfl⟩
instance tcl165 : TCells Try.prog 165 1 := ⟨by kernel_rfl, by decide⟩
instance tze165 : TZero Try.prog 165 (.int .i32 0) := ⟨by kernel_rfl, rfl, by decide⟩
instance tsh166 : TSh Try.prog 166 .one := ⟨by kernel_rfl⟩
instance tcl166 : TCells Try.prog 166 1 := ⟨by kernel_rfl, by decide⟩
instance tze166 : TZero Try.prog 166 (.int .i32 0) := ⟨by kernel_rfl, rfl, by decide⟩
instance tsh167 : TSh Try.prog 167 (.many 11) := ⟨by kernel_rfl⟩
instance tcl167 : TCells Try.prog 167 11 := ⟨by kernel_rfl, by decide⟩
instance tfl167x0 : TField Try.prog 167 0 0 12 := ⟨by kernel_rfl, kne (k := 1) (by kernel_rfl) (by decide)⟩
instance tfl167x1 : TField Try.prog 167 1 1 12 := ⟨by kernel_rfl, kne (k := 1) (by kernel_rfl) (by decide)⟩
instance tfl167x2 : TField Try.prog 167 2 2 135 := ⟨by kernel_rfl, kne (k := 1) (by kernel_rfl) (by decide)⟩
instance tfl167x3 : TField Try.prog 167 3 3 161 := ⟨by kernel_rfl, kne (k := 1) (by kernel_rfl) (by decide)⟩
instance tfl167x4 : TField Try.prog 167 4 4 5 := ⟨by kernel_rfl, kne (k := 1) (by kernel_rfl) (by decide)⟩
instance tfl167x5 : TField Try.prog 167 5 5 5 := ⟨by kernel_rfl, kne (k := 1) (by kernel_rfl) (by decide)⟩
instance tfl167x6 : TField Try.prog 167 6 6 162 := ⟨by kernel_rfl, kne (k := 1) (by kernel_rfl) (by decide)⟩
instance tfl167x7 : TField Try.prog 167 7 7 163 := ⟨by kernel_rfl, kne (k := 1) (by kernel_rfl) (by decide)⟩
instance tfl167x8 : TField Try.prog 167 8 8 164 := ⟨by kernel_rfl, kne (k := 1) (by kernel_rfl) (by decide)⟩
instance tfl167x9 : TField Try.prog 167 9 9 165 := ⟨by kernel_rfl, kne (k := 1) (by kernel_rfl) (by decide)⟩
instance tfl167x10 : TField Try.prog 167 10 10 166 := ⟨by kernel_rfl, kne (k := 1) (by kernel_rfl) (by decide)⟩
instance tly167 : TLay Try.prog 167 [.int .u64 0, .int .u64 0, .int .u32 0, .int .u8 0, .int .u8 0, .int .u8 0, .int .u8 0, .nilfunc, .nilptr, .int .i32 0, .int .i32 0] [(0, 1), (1, 1), (2, 1), (3, 1), (4, 1), (5, 1), (6, 1), (7, 1), (8, 1), (9, 1), (10, 1)] := ⟨by kernel_rfl⟩
instance tze167 : TZero Try.prog 167 (.agg [.int .u64 0, .int .u64 0, .int .u32 0, .int .u8 0, .int .u8 0, .int .u8 0, .int .u8 0, .nilfunc, .nilptr, .int .i32 0, .int .i32 0]) := ⟨by kernel_rfl, rfl, by decide⟩
instance tsh168 : TSh Try.prog 168 (.many 11) := ⟨by kernel_rfl⟩
instance tcl168 : TCells Try.prog 168 11 := ⟨by kernel_rfl, by decide⟩
instance tfl168x0 : TField Try.prog 168 0 0 12 := ⟨by kernel_rfl, kne (k := 1) (by kernel_rfl) (by decide)⟩
instance tfl168x1 : TField Try.prog 168 1 1 12 := ⟨by kernel_rfl, kne (k := 1) (by kernel_rfl) (by decide)⟩
instance tfl168x2 : TField Try.prog 168 2 2 135 := ⟨by kernel_rfl, kne (k := 1) (by kernel_rfl) (by decide)⟩
instance tfl168x3 : TField Try.prog 168 3 3 161 := ⟨by kernel_rfl, kne (k := 1) (by kernel_rfl) (by decide)⟩
instance tfl168x4 : TField Try.prog 168 4 4 5 := ⟨by kernel_rfl, kne (k := 1) (by kernel_rfl) (by decide)⟩
instance tfl168x5 : TField Try.prog 168 5 5 5 := ⟨by kernel_rfl, kne (k := 1) (by kernel_rfl) (by decide)⟩
instance tfl168x6 : TField Try.prog 168 6 6 162 := ⟨by kernel_rfl, kne (k := 1) (by kernel_rfl) (by decide)⟩
instance tfl168x7 : TField Try.prog 168 7 7 163 := ⟨by kernel_rfl, kne (k := 1) (by kernel_rfl) (by decide)⟩
instance tfl168x8 : TField Try.prog 168 8 8 164 := ⟨by kernel_rfl, kne (k := 1) (by kernel_rfl) (by decide)⟩
instance tfl168x9 : TField Try.prog 168 9 9 165 := ⟨by kernel_rfl, kne (k := 1) (by kernel_rfl) (by decide)⟩
instance tfl168x10 : TField Try.prog 168 10 10 166 := ⟨by kernel_rfl, kne (k := 1) (by kernel_rfl) (by decide)⟩
instance tly168 : TLay Try.prog 168 [.int .u64 0, .int .u64 0, .int .u32 0, .int .u8 0, .int .u8 0, .int .u8 0, .int .u8 0, .nilfunc, .nilptr, .int .i32 0, .int .i32 0] [(0, 1), (1, 1), (2, 1), (3, 1), (4, 1), (5, 1), (6, 1), (7, 1), (8, 1), (9, 1), (10, 1)] := ⟨by kernel_rfl⟩
instance tze168 : TZero Try.prog 168 (.agg [.int .u64 0, .int .u64 0, .int .u32 0, .int .u8 0, .int .u8 0, .int .u8 0, .int .u8 0, .nilfunc, .nilptr, .int .i32 0, .int .i32 0]) := ⟨by kernel_rfl, rfl, by decide⟩
instance tsh169 : TSh Try.prog 169 .one := ⟨by kernel_rfl⟩
instance tcl169 : TCells Try.prog 169 1 := ⟨by kernel_rfl, by decide⟩
instance tze169 : TZero Try.prog 169 (.nilptr) := ⟨by kernel_rfl, rfl, by decide⟩
instance teq23 : TEq Try.prog 23 [.i, .i] := ⟨by kernel_rfl⟩
instance tar24 : TArr Try.prog 24 4 2 := ⟨23, by kernel_rfl, by kernel_rfl, by decide⟩
instance tae24 : TArrE Try.prog 24 4 23 2 := ⟨by kernel_rfl, by kernel_rfl, by decide⟩
instance tly24 : TLay Try.prog 24 [.int .i64 0, .int .i64 0, .int .i64 0, .int .i64 0, .int .i64 0, .int .i64 0, .int .i64 0, .int .i64 0] [(0, 2), (2, 2), (4, 2), (6, 2)] := ⟨by kernel_rfl⟩
instance teq47 : TEq Try.prog 47 [.i, .i, .i] := ⟨by kernel_rfl⟩
instance teq64 : TEq Try.prog 64 [.i, .i] := ⟨by kernel_rfl⟩
instance tar73 : TArr Try.prog 73 3 1 := ⟨72, by kernel_rfl, by kernel_rfl, by decide⟩
instance tae73 : TArrE Try.prog 73 3 72 1 := ⟨by kernel_rfl, by kernel_rfl, by decide⟩
instance tly73 : TLay Try.prog 73 [.int .i8 0, .int .i8 0, .int .i8 0] [(0, 1), (1, 1), (2, 1)] := ⟨by kernel_rfl⟩
instance teq76 : TEq Try.prog 76 [.i, .i, .i] := ⟨by kernel_rfl⟩
instance tar92 : TArr Try.prog 92 3 2 := ⟨23, by kernel_rfl, by kernel_rfl, by decide⟩
instance tae92 : TArrE Try.prog 92 3 23 2 := ⟨by kernel_rfl, by kernel_rfl, by decide⟩
instance tly92 : TLay Try.prog 92 [.int .i64 0, .int .i64 0, .int .i64 0, .int .i64 0, .int .i64 0, .int .i64 0] [(0, 2), (2, 2), (4, 2)] := ⟨by kernel_rfl⟩
instance tar100 : TArr Try.prog 100 4 2 := ⟨99, by kernel_rfl, by kernel_rfl, by decide⟩
instance tae100 : TArrE Try.prog 100 4 99 2 := ⟨by kernel_rfl, by kernel_rfl, by decide⟩
instance tly100 : TLay Try.prog 100 [.int .i64 0, .nilfunc, .int .i64 0, .nilfunc, .int .i64 0, .nilfunc, .int .i64 0, .nilfunc] [(0, 2), (2, 2), (4, 2), (6, 2)] := ⟨by kernel_rfl⟩
instance tar102 : TArr Try.prog 102 3 3 := ⟨76, by kernel_rfl, by kernel_rfl, by decide⟩
instance tae102 : TArrE Try.prog 102 3 76 3 := ⟨by kernel_rfl, by kernel_rfl, by decide⟩
instance tly102 : TLay Try.prog 102 [.int .i64 0, .int .i64 0, .int .i64 0, .int .i64 0, .int .i64 0, .int .i64 0, .int .i64 0, .int .i64 0, .int .i64 0] [(0, 3), (3, 3), (6, 3)] := ⟨by kernel_rfl⟩
instance tar110 : TArr Try.prog 110 3 1 := ⟨3, by kernel_rfl, by kernel_rfl, by decide⟩
instance tae110 : TArrE Try.prog 110 3 3 1 := ⟨by kernel_rfl, by kernel_rfl, by decide⟩
instance tly110 : TLay Try.prog 110 [.int .i64 0, .int .i64 0, .int .i64 0] [(0, 1), (1, 1), (2, 1)] := ⟨by kernel_rfl⟩
instance tar157 : TArr Try.prog 157 0 1 := ⟨16, by kernel_rfl, by kernel_rfl, by decide⟩
instance tae157 : TArrE Try.prog 157 0 16 1 := ⟨by kernel_rfl, by kernel_rfl, by decide⟩
instance tly157 : TLay Try.prog 157 [] [] := ⟨by kernel_rfl⟩
end Go.Pv.Tf

open Go Go.Proofs Go.Pv
set_option maxHeartbeats 4000000
set_option maxRecDepth 100000
set_option linter.unusedSimpArgs false
set_option linter.unusedVariables false
namespace Go.Pv.Geo

theorem mix : Try.prog.follows .mixedOrders = true := by decide +kernel
structure Pt where
  x : Int
  y : Int
  deriving DecidableEq
def encPt (p : Pt) : List D := [.int .i64 p.x, .int .i64 p.y]
theorem scalPt : ScalF encPt 2 := fun _ => ⟨rfl, rfl⟩
def ptOK (p : Pt) : Bool := decide ((-1000000 ≤ p.x ∧ p.x ≤ 1000000) ∧ (-1000000 ≤ p.y ∧ p.y ≤ 1000000))
theorem pt_bd {p : Pt} (h : ptOK p = true) : (-1000000 ≤ p.x ∧ p.x ≤ 1000000) ∧ -1000000 ≤ p.y ∧ p.y ≤ 1000000 := by simpa [ptOK] using h
theorem pt_no {p : Pt} (h : ¬ ((-1000000 ≤ p.x ∧ p.x ≤ 1000000) ∧ (-1000000 ≤ p.y ∧ p.y ≤ 1000000))) : true = !ptOK p := by
  simp only [ptOK, decide_eq_false h, Bool.not_false]
theorem pt_yes {p : Pt} (h : (-1000000 ≤ p.x ∧ p.x ≤ 1000000) ∧ (-1000000 ≤ p.y ∧ p.y ≤ 1000000)) : false = !ptOK p := by
  simp only [ptOK, decide_eq_true h, Bool.not_true]

def idxOf {α : Type} (p : α → Bool) (l : List α) : Int := match l.findIdx? p with
  | some i => i
  | none => -1
theorem idxOf_none {α : Type} {p : α → Bool} {l : List α} (h : ∀ x ∈ l, p x = false) : idxOf p l = -1 := by
  have : l.findIdx? p = none := by simpa using h
  rw [idxOf, this]
theorem idxOf_some {α : Type} {p : α → Bool} {l : List α} {i : Nat} (hi : i < l.length) (h : p l[i] = true) (hb : ∀ j (hj : j < i), p (l[j]'(by omega)) = false) : idxOf p l = i := by
  have : l.findIdx? p = some i := by
    rw [List.findIdx?_eq_some_iff_getElem]
    exact ⟨hi, h, fun j hj => by simpa using hb j hj⟩
  rw [idxOf, this]
theorem idxOf_ge {α : Type} {p : α → Bool} {l : List α} : decide (0 ≤ idxOf p l) = l.any p := by
  unfold idxOf
  cases h : l.findIdx? p with
  | none =>
    have : l.any p = false := by
      rw [List.findIdx?_eq_none_iff] at h
      rw [List.any_eq_false]
      intro x hx
      simp [h x hx]
    rw [this]; rfl
  | some i =>
    have : l.any p = true := by
      rw [List.findIdx?_eq_some_iff_getElem] at h
      obtain ⟨hi, h1, _⟩ := h
      exact List.any_eq_true.2 ⟨l[i], List.getElem_mem hi, h1⟩
    rw [this]
    simp

theorem c_within (n lo hi : Int) : Contract Try.prog 33 [.int .i64 n, .int .i64 lo, .int .i64 hi] (.ret (.bool (decide (lo ≤ n ∧ n ≤ hi)))) := by
  refine contract_of mix Try.func33 rfl rfl (by rw [Try.ntmps33]; exact Nat.le_of_ble_eq_true rfl) ?_; rw [Try.results33, Try.ntmps33]; simp only [argsE, Nat.reduceAdd]
  repeat' first
           | (with_reducible apply go_op)
           | (with_reducible apply go_next)
           | ((with_reducible (show evOp _ _ _ _ _ _)); first
             | ((with_reducible (show evOp _ (.move _) _ _ _ _)) ; first | ((with_reducible apply go_mv_int); rfl; rfl) | ((with_reducible apply go_mv_bool); rfl; rfl))
             | ((with_reducible apply go_as))
             | (((with_reducible apply go_cmp); rfl; rfl; rfl; rfl))
             | (((with_reducible apply go_pick); rfl; rfl; rfl)))
           | ((with_reducible (show evOps _ _ _ _ _ _)); first
             | (with_reducible apply go_nil)
             | ((with_reducible apply go_run); rfl; rfl)
             | ((with_reducible apply go_pass); rfl; rfl; rfl)
             | (((with_reducible apply go_guard); rfl) <;> (intro h; simp only [h, Bool.not_true, Bool.not_false]; (try with_reducible (refine ⟨rfl, ?_⟩)); try simp only [decide_eq_true_eq, decide_eq_false_iff_not, Bool.not_eq_true', Bool.not_eq_false', Bool.not_true, Bool.not_false] at h; try exact absurd trivial h)))
           | ((with_reducible (show evG _ _ _ _ _)); first
             | (with_reducible apply go_seq)
             | (with_reducible apply go_region)
             | (with_reducible apply go_ret))
           | (with_reducible apply go_kseq)
           | ((with_reducible apply end_bool); rfl)
  all_goals (simp at *; try omega)
theorem c_outside1 (p : Pt) : Contract Try.prog 106 [.agg (encPt p)] (.ret (.bool (!ptOK p))) := by
  refine contract_of mix Try.func106 rfl rfl (by rw [Try.ntmps106]; exact Nat.le_of_ble_eq_true rfl) ?_; rw [Try.results106, Try.ntmps106]; simp only [argsE, Nat.reduceAdd]
  repeat' first
           | (with_reducible apply go_op)
           | (with_reducible apply go_next)
           | ((with_reducible (show evOp _ _ _ _ _ _)); first
             | (((with_reducible apply go_mv_bool); rfl; rfl))
             | ((with_reducible apply go_as))
             | (((with_reducible apply go_load_own); rfl; rfl; rfl; rfl))
             | (((with_reducible apply go_fieldAddr_own); rfl; rfl; rfl))
             | (((with_reducible apply go_cmp); rfl; rfl; rfl; rfl))
             | (((with_reducible apply go_pick); rfl; rfl; rfl))
             | (((with_reducible apply go_bx_agg); rfl; rfl; (exact Nat.le_of_ble_eq_true rfl); rfl; rfl)))
           | ((with_reducible (show evOps _ _ _ _ _ _)); first
             | (with_reducible apply go_nil)
             | ((with_reducible apply go_run); rfl; rfl)
             | ((with_reducible apply go_pass); rfl; rfl; rfl)
             | (((with_reducible apply go_guard); rfl) <;> (intro h; simp only [h, Bool.not_true, Bool.not_false]; (try with_reducible (refine ⟨rfl, ?_⟩)); try simp only [decide_eq_true_eq, decide_eq_false_iff_not, Bool.not_eq_true', Bool.not_eq_false', Bool.not_true, Bool.not_false] at h; try exact absurd trivial h)))
           | ((with_reducible (show evG _ _ _ _ _)); first
             | (with_reducible apply go_seq)
             | (with_reducible apply go_region)
             | (with_reducible apply go_ret))
           | (with_reducible apply go_kseq)
           | ((with_reducible apply end_bool); rfl)
  · by_cases h4 : 1000000 < p.y
    · rw [decide_eq_true h4]; exact pt_no (p := p) (by omega)
    · rw [decide_eq_false h4]; exact pt_yes (p := p) (by omega)
  all_goals exact pt_no (p := p) (by omega)
theorem c_IndexFunc (l : List Pt) (hl : l.length < 1000000000000) (g : FuncId) (p : Pt → Bool) (hf : ∀ x ∈ l, Contract Try.prog g [.agg (encPt x)] (.ret (.bool (p x)))) :
    Contract Try.prog 124 [.sl (l.map encPt), .clo (.func g) [] []] (.ret (.int .i64 (idxOf p l))) := by
  refine contract_of mix Try.func124 rfl rfl (by rw [Try.ntmps124]; exact Nat.le_of_ble_eq_true rfl) ?_; rw [Try.results124, Try.ntmps124]; simp only [argsE, Nat.reduceAdd]
  repeat' first
           | (with_reducible apply go_op)
           | (with_reducible apply go_next)
           | ((with_reducible (show evOp _ _ _ _ _ _)); first
             | ((with_reducible (show evOp _ (.move _) _ _ _ _)) ; first | ((with_reducible apply go_mv_int); rfl; rfl) | ((with_reducible apply go_mv_sl); rfl; rfl))
             | ((with_reducible apply go_as))
             | (((with_reducible apply go_len); rfl; rfl)))
           | ((with_reducible (show evOps _ _ _ _ _ _)); first
             | (with_reducible apply go_nil))
           | ((with_reducible (show evG _ _ _ _ _)); first
             | (with_reducible apply go_seq)
             | (with_reducible apply go_region)
             | (with_reducible apply go_block))
           | (with_reducible apply go_kseq)
  refine go_count (l.length) (fun i => ⟨[(8, .int .i64 i), (7, .int .i64 l.length), (0, .sl (l.map encPt)), (1, .clo (.func g) [] [])], [], 0, 19⟩) (fun i => ∀ j (hj : j < i) (hj' : j < l.length), p l[j] = false) (entails_eq (k := 0) (ns := []) (ks := [8, 7, 0, 1]) [] rfl (by simp) rfl) (by omega) ?_
  intro i hi hC
  repeat' first
           | (with_reducible apply go_op)
           | (with_reducible apply go_next)
           | ((with_reducible (show evOp _ _ _ _ _ _)); first
             | ((with_reducible (show evOp _ (.move _) _ _ _ _)) ; first | ((with_reducible apply go_mv_int); rfl; rfl) | ((with_reducible apply go_mv_sl); rfl; rfl) | ((with_reducible apply go_mv_clo); rfl; rfl))
             | ((with_reducible apply go_as))
             | (((with_reducible apply go_ld_ptr); rfl; rfl; rfl))
             | (((with_reducible apply go_index_nat); rfl; rfl; (with_reducible rfl); (intro; rfl); rfl; omega; (intro hlt)))
             | (((with_reducible apply go_cmp); rfl; rfl; rfl; rfl)))
           | ((with_reducible (show evOps _ _ _ _ _ _)); first
             | (with_reducible apply go_nil))
           | ((with_reducible (show evG _ _ _ _ _)); first
             | (with_reducible apply go_seq)
             | (with_reducible apply go_region)
             | (((with_reducible apply go_cond); rfl) <;> (intro h; simp only [h]; try simp only [decide_eq_true_eq, decide_eq_false_iff_not, Bool.not_eq_true', Bool.not_eq_false', Bool.not_true, Bool.not_false] at h; try exact absurd trivial h))
             | (with_reducible apply go_ret)
             | (with_reducible apply go_skipc)
             | (with_reducible apply go_block)
             | (with_reducible apply go_exit))
           | (with_reducible apply go_kseq)
           | (with_reducible apply go_kblock_exit)
           | (with_reducible apply go_kseq_exit)
           | ((with_reducible apply end_int); rfl)
  · refine go_clo_bool (d1 := .agg (encPt l[i])) rfl rfl (fun _ _ => rfl) (hf l[i] (List.getElem_mem _)) rfl ?_
    repeat' first
           | (with_reducible apply go_op)
           | (with_reducible apply go_next)
           | ((with_reducible (show evOp _ _ _ _ _ _)); first
             | (((with_reducible apply go_mv_int); rfl; rfl))
             | ((with_reducible apply go_as))
             | (((with_reducible apply go_add); rfl; rfl; rfl; omega)))
           | ((with_reducible (show evOps _ _ _ _ _ _)); first
             | (with_reducible apply go_nil))
           | ((with_reducible (show evG _ _ _ _ _)); first
             | (with_reducible apply go_seq)
             | (with_reducible apply go_region)
             | (((with_reducible apply go_cond); rfl) <;> (intro h; simp only [h]; try simp only [decide_eq_true_eq, decide_eq_false_iff_not, Bool.not_eq_true', Bool.not_eq_false', Bool.not_true, Bool.not_false] at h; try exact absurd trivial h))
             | (with_reducible apply go_ret)
             | (with_reducible apply go_skipc))
           | (with_reducible apply go_kseq)
           | (with_reducible apply go_kseq_ret)
           | (with_reducible apply go_kblock)
           | (with_reducible apply go_kblock_ret)
           | ((with_reducible apply end_int); rfl)
    · have h2 : i < l.length := by omega
      exact (idxOf_some h2 h fun j hj => hC j hj (by omega)).symm
    · have h2 : i < l.length := by omega
      refine ⟨by omega, fun j hj hj' => ?_, entails_eq (k := 0) (ns := []) (ks := [8, 7, 0, 1]) [] rfl (by simp) rfl⟩
      rcases Nat.lt_succ_iff_lt_or_eq.1 hj with h' | rfl
      · exact hC j h' hj'
      · exact h
  · refine (idxOf_none fun x hx => ?_).symm
    obtain ⟨j, hj, rfl⟩ := List.mem_iff_getElem.1 hx
    exact hC j (by omega) hj
theorem c_ContainsFunc (l : List Pt) (hl : l.length < 1000000000000) (g : FuncId) (p : Pt → Bool) (hf : ∀ x ∈ l, Contract Try.prog g [.agg (encPt x)] (.ret (.bool (p x)))) :
    Contract Try.prog 105 [.sl (l.map encPt), .clo (.func g) [] []] (.ret (.bool (l.any p))) := by
  refine contract_of mix Try.func105 rfl rfl (by rw [Try.ntmps105]; exact Nat.le_of_ble_eq_true rfl) ?_; rw [Try.results105, Try.ntmps105]; simp only [argsE, Nat.reduceAdd]
  repeat' first
           | (with_reducible apply go_op)
           | (with_reducible apply go_next)
           | ((with_reducible (show evOp _ _ _ _ _ _)); first
             | ((with_reducible (show evOp _ (.move _) _ _ _ _)) ; first | ((with_reducible apply go_mv_bool); rfl; rfl) | ((with_reducible apply go_mv_sl); rfl; rfl) | ((with_reducible apply go_mv_clo); rfl; rfl))
             | ((with_reducible apply go_as))
             | (((with_reducible apply go_cmp); rfl; rfl; rfl; rfl))
             | (((with_reducible apply go_fn_int); rfl; (exact c_IndexFunc l hl g p hf); rfl)))
           | ((with_reducible (show evOps _ _ _ _ _ _)); first
             | (with_reducible apply go_nil))
           | ((with_reducible (show evG _ _ _ _ _)); first
             | (with_reducible apply go_seq)
             | (with_reducible apply go_region)
             | (with_reducible apply go_ret))
           | (with_reducible apply go_kseq)
           | ((with_reducible apply end_bool); rfl)
  exact idxOf_ge
theorem c_outside (l : List Pt) (hl : l.length < 1000000000000) : Contract Try.prog 73 [.sl (l.map encPt)] (.ret (.bool (l.any fun p => !ptOK p))) := by
  refine contract_of mix Try.func73 rfl rfl (by rw [Try.ntmps73]; exact Nat.le_of_ble_eq_true rfl) ?_; rw [Try.results73, Try.ntmps73]; simp only [argsE, Nat.reduceAdd]
  repeat' first
           | (with_reducible apply go_op)
           | (with_reducible apply go_next)
           | ((with_reducible (show evOp _ _ _ _ _ _)); first
             | ((with_reducible (show evOp _ (.move _) _ _ _ _)) ; first | ((with_reducible apply go_mv_bool); rfl; rfl) | ((with_reducible apply go_mv_sl); rfl; rfl))
             | ((with_reducible apply go_as))
             | (((with_reducible apply go_fn_bool); rfl; (exact c_ContainsFunc l hl 106 (fun p => !ptOK p) fun x _ => c_outside1 x); rfl)))
           | ((with_reducible (show evOps _ _ _ _ _ _)); first
             | (with_reducible apply go_nil))
           | ((with_reducible (show evG _ _ _ _ _)); first
             | (with_reducible apply go_seq)
             | (with_reducible apply go_region)
             | (with_reducible apply go_ret))
           | (with_reducible apply go_kseq)
           | ((with_reducible apply end_bool); rfl)
           | (with_reducible rfl)
theorem mul_abs {u v A B : Int} (hu : -A ≤ u ∧ u ≤ A) (hv : -B ≤ v ∧ v ≤ B) : -(A * B) ≤ u * v ∧ u * v ≤ A * B := by
  have key : ∀ y : Int, 0 ≤ y ∧ y ≤ B → -(A * B) ≤ u * y ∧ u * y ≤ A * B := fun y hy => by
    have h1 : u * y ≤ A * y := Int.mul_le_mul_of_nonneg_right hu.2 hy.1
    have h2 : -A * y ≤ u * y := Int.mul_le_mul_of_nonneg_right hu.1 hy.1
    have h3 : A * y ≤ A * B := Int.mul_le_mul_of_nonneg_left hy.2 (by omega)
    rw [Int.neg_mul] at h2
    omega
  by_cases h : 0 ≤ v
  · exact key v ⟨h, hv.2⟩
  · have := key (-v) ⟨by omega, by omega⟩
    rw [Int.mul_neg] at this
    omega
def crossE (a b c : Pt) : Int := (b.x - a.x) * (c.y - a.y) - (b.y - a.y) * (c.x - a.x)
def dotE (a b c : Pt) : Int := (b.x - a.x) * (c.x - a.x) + (b.y - a.y) * (c.y - a.y)
theorem mul4 {u v : Int} (hu : -2000000 ≤ u ∧ u ≤ 2000000) (hv : -2000000 ≤ v ∧ v ≤ 2000000) : -4000000000000 ≤ u * v ∧ u * v ≤ 4000000000000 := by
  have := mul_abs hu hv; omega
theorem cross_bd {a b c : Pt} (ha : ptOK a = true) (hb : ptOK b = true) (hc : ptOK c = true) : (-4000000000000 ≤ (b.x - a.x) * (c.y - a.y) ∧ (b.x - a.x) * (c.y - a.y) ≤ 4000000000000) ∧ (-4000000000000 ≤ (b.y - a.y) * (c.x - a.x) ∧ (b.y - a.y) * (c.x - a.x) ≤ 4000000000000) := by
  have h1 := pt_bd ha
  have h2 := pt_bd hb
  have h3 := pt_bd hc
  exact ⟨mul4 (by omega) (by omega), mul4 (by omega) (by omega)⟩
theorem crossE_bd {a b c : Pt} (ha : ptOK a = true) (hb : ptOK b = true) (hc : ptOK c = true) : -8000000000000 ≤ crossE a b c ∧ crossE a b c ≤ 8000000000000 := by
  have := cross_bd ha hb hc; unfold crossE; omega
theorem c_cross (a b c : Pt) (ha : ptOK a = true) (hb : ptOK b = true) (hc : ptOK c = true) : Contract Try.prog 87 [.agg (encPt a), .agg (encPt b), .agg (encPt c)] (.ret (.int .i64 (crossE a b c))) := by
  have h1 := pt_bd ha
  have h2 := pt_bd hb
  have h3 := pt_bd hc
  have h4 := cross_bd ha hb hc
  refine contract_of mix Try.func87 rfl rfl (by rw [Try.ntmps87]; exact Nat.le_of_ble_eq_true rfl) ?_; rw [Try.results87, Try.ntmps87]; simp only [argsE, Nat.reduceAdd]
  repeat' first
           | (with_reducible apply go_op)
           | (with_reducible apply go_next)
           | ((with_reducible (show evOp _ _ _ _ _ _)); first
             | (((with_reducible apply go_mv_int); rfl; rfl))
             | ((with_reducible apply go_as))
             | (((with_reducible apply go_load_own); rfl; rfl; rfl; rfl))
             | (((with_reducible apply go_fieldAddr_own); rfl; rfl; rfl))
             | ((with_reducible (show evOp _ (.binOp _ _ _ _ _) _ _ _ _)) ; first | ((with_reducible apply go_sub); rfl; rfl; rfl; omega) | ((with_reducible apply go_mul); rfl; rfl; rfl; omega))
             | (((with_reducible apply go_bx_agg); rfl; rfl; (exact Nat.le_of_ble_eq_true rfl); rfl; rfl)))
           | ((with_reducible (show evOps _ _ _ _ _ _)); first
             | (with_reducible apply go_nil))
           | ((with_reducible (show evG _ _ _ _ _)); first
             | (with_reducible apply go_seq)
             | (with_reducible apply go_region)
             | (with_reducible apply go_ret))
           | (with_reducible apply go_kseq)
           | ((with_reducible apply end_int); rfl)
  all_goals rfl
theorem c_rcross (a b c : Pt) (ha : ptOK a = true) (hb : ptOK b = true) (hc : ptOK c = true) : Contract Try.prog 31 [.agg (encPt a), .agg (encPt b), .agg (encPt c)] (.ret (.int .i64 (crossE a b c))) := by
  have h1 := pt_bd ha
  have h2 := pt_bd hb
  have h3 := pt_bd hc
  have h4 := cross_bd ha hb hc
  refine contract_of mix Try.func31 rfl rfl (by rw [Try.ntmps31]; exact Nat.le_of_ble_eq_true rfl) ?_; rw [Try.results31, Try.ntmps31]; simp only [argsE, Nat.reduceAdd]
  repeat' first
           | (with_reducible apply go_op)
           | (with_reducible apply go_next)
           | ((with_reducible (show evOp _ _ _ _ _ _)); first
             | (((with_reducible apply go_mv_int); rfl; rfl))
             | ((with_reducible apply go_as))
             | (((with_reducible apply go_load_own); rfl; rfl; rfl; rfl))
             | (((with_reducible apply go_fieldAddr_own); rfl; rfl; rfl))
             | ((with_reducible (show evOp _ (.binOp _ _ _ _ _) _ _ _ _)) ; first | ((with_reducible apply go_sub); rfl; rfl; rfl; omega) | ((with_reducible apply go_mul); rfl; rfl; rfl; omega))
             | (((with_reducible apply go_bx_agg); rfl; rfl; (exact Nat.le_of_ble_eq_true rfl); rfl; rfl)))
           | ((with_reducible (show evOps _ _ _ _ _ _)); first
             | (with_reducible apply go_nil))
           | ((with_reducible (show evG _ _ _ _ _)); first
             | (with_reducible apply go_seq)
             | (with_reducible apply go_region)
             | (with_reducible apply go_ret))
           | (with_reducible apply go_kseq)
           | ((with_reducible apply end_int); rfl)
  all_goals rfl
def sqE (a b : Pt) : Int := dotE a b b
def signE (n : Int) : Int := if n < 0 then -1 else if 0 < n then 1 else 0
theorem c_sign (n : Int) : Contract Try.prog 77 [.int .i64 n] (.ret (.int .i64 (signE n))) := by
  refine contract_of mix Try.func77 rfl rfl (by rw [Try.ntmps77]; exact Nat.le_of_ble_eq_true rfl) ?_; rw [Try.results77, Try.ntmps77]; simp only [argsE, Nat.reduceAdd]
  repeat' first
           | (with_reducible apply go_op)
           | (with_reducible apply go_next)
           | ((with_reducible (show evOp _ _ _ _ _ _)); first
             | (((with_reducible apply go_mv_int); rfl; rfl))
             | ((with_reducible apply go_as))
             | (((with_reducible apply go_cmp); rfl; rfl; rfl; rfl)))
           | ((with_reducible (show evOps _ _ _ _ _ _)); first
             | (with_reducible apply go_nil))
           | ((with_reducible (show evG _ _ _ _ _)); first
             | (with_reducible apply go_seq)
             | (with_reducible apply go_region)
             | (((with_reducible apply go_cond); rfl) <;> (intro h; simp only [h]; try simp only [decide_eq_true_eq, decide_eq_false_iff_not, Bool.not_eq_true', Bool.not_eq_false', Bool.not_true, Bool.not_false] at h; try exact absurd trivial h))
             | (with_reducible apply go_ret)
             | (with_reducible apply go_skipc))
           | (with_reducible apply go_kseq)
           | (with_reducible apply go_kseq_ret)
           | ((with_reducible apply end_int); rfl)
  all_goals (unfold signE; (repeat' split) <;> first | rfl | (exfalso; omega))
theorem c_rorient (a b c : Pt) (ha : ptOK a = true) (hb : ptOK b = true) (hc : ptOK c = true) : Contract Try.prog 23 [.agg (encPt a), .agg (encPt b), .agg (encPt c)] (.ret (.int .i64 (signE (crossE a b c)))) := by
  refine contract_of mix Try.func23 rfl rfl (by rw [Try.ntmps23]; exact Nat.le_of_ble_eq_true rfl) ?_; rw [Try.results23, Try.ntmps23]; simp only [argsE, Nat.reduceAdd]
  repeat' first
           | (with_reducible apply go_op)
           | (with_reducible apply go_next)
           | ((with_reducible (show evOp _ _ _ _ _ _)); first
             | (((with_reducible apply go_mv_int); rfl; rfl))
             | ((with_reducible apply go_as))
             | (((with_reducible apply go_ld_agg); rfl; rfl; rfl; rfl))
             | ((with_reducible (show evOp _ (.call _) _ _ _ _)) ; first | ((with_reducible apply go_fn_int); rfl; (exact c_rcross a b c ha hb hc); rfl) | ((with_reducible apply go_fn_int); rfl; (exact c_sign _); rfl))
             | (((with_reducible apply go_bx_agg); rfl; rfl; (exact Nat.le_of_ble_eq_true rfl); rfl; rfl)))
           | ((with_reducible (show evOps _ _ _ _ _ _)); first
             | (with_reducible apply go_nil))
           | ((with_reducible (show evG _ _ _ _ _)); first
             | (with_reducible apply go_seq)
             | (with_reducible apply go_region)
             | (with_reducible apply go_ret))
           | (with_reducible apply go_kseq)
           | ((with_reducible apply end_int); rfl)
           | (with_reducible rfl)
theorem c_isNaN (n : Int) : Contract Try.prog 122 [.int .i64 n] (.ret (.bool false)) := by
  refine contract_of mix Try.func122 rfl rfl (by rw [Try.ntmps122]; exact Nat.le_of_ble_eq_true rfl) ?_; rw [Try.results122, Try.ntmps122]; simp only [argsE, Nat.reduceAdd]
  repeat' first
           | (with_reducible apply go_op)
           | (with_reducible apply go_next)
           | ((with_reducible (show evOp _ _ _ _ _ _)); first
             | ((with_reducible (show evOp _ (.move _) _ _ _ _)) ; first | ((with_reducible apply go_mv_int); rfl; rfl) | ((with_reducible apply go_mv_bool); rfl; rfl))
             | ((with_reducible apply go_as))
             | (((with_reducible apply go_cmp); rfl; rfl; rfl; rfl)))
           | ((with_reducible (show evOps _ _ _ _ _ _)); first
             | (with_reducible apply go_nil))
           | ((with_reducible (show evG _ _ _ _ _)); first
             | (with_reducible apply go_seq)
             | (with_reducible apply go_region)
             | (with_reducible apply go_ret))
           | (with_reducible apply go_kseq)
           | ((with_reducible apply end_bool); rfl)
  all_goals simp
def cmpE (a b : Int) : Int := if a < b then -1 else if b < a then 1 else 0
theorem c_compare (n m : Int) : Contract Try.prog 97 [.int .i64 n, .int .i64 m] (.ret (.int .i64 (cmpE n m))) := by
  refine contract_of mix Try.func97 rfl rfl (by rw [Try.ntmps97]; exact Nat.le_of_ble_eq_true rfl) ?_; rw [Try.results97, Try.ntmps97]; simp only [argsE, Nat.reduceAdd]
  repeat' first
           | (with_reducible apply go_op)
           | (with_reducible apply go_next)
           | ((with_reducible (show evOp _ _ _ _ _ _)); first
             | ((with_reducible (show evOp _ (.move _) _ _ _ _)) ; first | ((with_reducible apply go_mv_int); rfl; rfl) | ((with_reducible apply go_mv_bool); rfl; rfl))
             | ((with_reducible apply go_as))
             | (((with_reducible apply go_cmp); rfl; rfl; rfl; rfl))
             | (((with_reducible apply go_fn_bool); rfl; (exact c_isNaN _); rfl)))
           | ((with_reducible (show evOps _ _ _ _ _ _)); first
             | (with_reducible apply go_nil))
           | ((with_reducible (show evG _ _ _ _ _)); first
             | (with_reducible apply go_seq)
             | (with_reducible apply go_region)
             | ((with_reducible apply go_cond_f); rfl; rfl)
             | (((with_reducible apply go_cond); rfl) <;> (intro h; simp only [h]; try simp only [decide_eq_true_eq, decide_eq_false_iff_not, Bool.not_eq_true', Bool.not_eq_false', Bool.not_true, Bool.not_false] at h; try exact absurd trivial h))
             | (with_reducible apply go_ret)
             | (with_reducible apply go_skipc))
           | (with_reducible apply go_kseq)
           | (with_reducible apply go_kseq_ret)
           | ((with_reducible apply end_int); rfl)
  all_goals (unfold cmpE; (repeat' split) <;> first | rfl | (exfalso; omega))
theorem c_compare0 (n : Int) : Contract Try.prog 97 [.int .i64 n, .int .i64 0] (.ret (.int .i64 (signE n))) := c_compare n 0
/-- Is a point on a segment? -/
def onE (a b p : Pt) : Bool := decide (crossE a b p = 0 ∧ (min a.x b.x ≤ p.x ∧ p.x ≤ max a.x b.x) ∧ (min a.y b.y ≤ p.y ∧ p.y ≤ max a.y b.y))
theorem c_rbetween (a b p : Pt) (ha : ptOK a = true) (hb : ptOK b = true) (hp : ptOK p = true) : Contract Try.prog 32 [.agg (encPt a), .agg (encPt b), .agg (encPt p)] (.ret (.bool (onE a b p))) := by
  refine contract_of mix Try.func32 rfl rfl (by rw [Try.ntmps32]; exact Nat.le_of_ble_eq_true rfl) ?_; rw [Try.results32, Try.ntmps32]; simp only [argsE, Nat.reduceAdd]
  repeat' first
           | (with_reducible apply go_op)
           | (with_reducible apply go_next)
           | ((with_reducible (show evOp _ _ _ _ _ _)); first
             | (((with_reducible apply go_mv_bool); rfl; rfl))
             | ((with_reducible apply go_as))
             | ((with_reducible (show evOp _ (.load _ _) _ _ _ _)) ; first | ((with_reducible apply go_ld_agg); rfl; rfl; rfl; rfl) | ((with_reducible apply go_load_own); rfl; rfl; rfl; rfl))
             | (((with_reducible apply go_fieldAddr_own); rfl; rfl; rfl))
             | (((with_reducible apply go_cmp); rfl; rfl; rfl; rfl))
             | ((with_reducible (show evOp _ (.call _) _ _ _ _)) ; first | ((with_reducible apply go_min); rfl; rfl; rfl) | ((with_reducible apply go_max); rfl; rfl; rfl) | ((with_reducible apply go_fn_int); rfl; (exact c_rcross a b p ha hb hp); rfl) | ((with_reducible apply go_fn_bool); rfl; (exact c_within _ _ _); rfl))
             | (((with_reducible apply go_pick); rfl; rfl; rfl))
             | (((with_reducible apply go_bx_agg); rfl; rfl; (exact Nat.le_of_ble_eq_true rfl); rfl; rfl)))
           | ((with_reducible (show evOps _ _ _ _ _ _)); first
             | (with_reducible apply go_nil)
             | ((with_reducible apply go_run); rfl; rfl)
             | ((with_reducible apply go_pass); rfl; rfl; rfl)
             | (((with_reducible apply go_guard); rfl) <;> (intro h; simp only [h, Bool.not_true, Bool.not_false]; (try with_reducible (refine ⟨rfl, ?_⟩)); try simp only [decide_eq_true_eq, decide_eq_false_iff_not, Bool.not_eq_true', Bool.not_eq_false', Bool.not_true, Bool.not_false] at h; try exact absurd trivial h)))
           | ((with_reducible (show evG _ _ _ _ _)); first
             | (with_reducible apply go_seq)
             | (with_reducible apply go_region)
             | (with_reducible apply go_ret))
           | (with_reducible apply go_kseq)
           | ((with_reducible apply end_bool); rfl)
  all_goals (unfold onE; first | exact (decide_eq_true (by omega)).symm | exact (decide_eq_false (by omega)).symm | (exact decide_eq_decide.2 (by omega)) | trace_state)
theorem sign_mul (a b : Int) : -1 ≤ signE a * signE b ∧ signE a * signE b ≤ 1 := by
  have h : ∀ n, -1 ≤ signE n ∧ signE n ≤ 1 := fun n => by unfold signE; (repeat' split) <;> omega
  have := mul_abs (A := 1) (B := 1) (h a) (h b)
  omega
end Go.Pv.Geo

open Go Go.Proofs Go.Pv
set_option maxHeartbeats 4000000
set_option maxRecDepth 100000
set_option linter.unusedVariables false
namespace Go.Pv.Geo
def okB (o : Option Outc) : Bool := match o with | some (.ret (.bool b)) => b | _ => false
theorem okB_ok {f : FuncId} {ds : List D} {n k : Nat} (h : okB (runF Try.prog n k f ds) = true) : Contract Try.prog f ds (.ret (.bool true)) := by
  refine runF_ok mix k f ds _ (fuel := n) ?_
  unfold okB at h
  split at h
  · rename_i b hb; rw [hb, h]
  · cases h
/-- The document's examples hold: worked out. -/
theorem c_awake : Contract Try.prog 19 [] (.ret (.bool true)) := okB_ok (n := 100) (k := 14) (by kernel_rfl)
end Go.Pv.Geo

open Go Go.Proofs Go.Shelf
set_option maxRecDepth 100000
namespace Go.Pv.Geo
def sortPt_ren : Go.Shelf.Ren := ⟨fun | 6 => 108 | 15 => 126 | 14 => 125 | 28 => 138 | 29 => 139 | 20 => 130 | 21 => 131 | 22 => 132 | 23 => 133 | 24 => 134 | 25 => 135 | 26 => 136 | 27 => 137 | 46 => 148 | 47 => 149 | 48 => 150 | 49 => 151 | 50 => 152 | 57 => 156 | n => n, fun | 22 => 31 | 24 => 23 | 25 => 84 | 3 => 3 | 39 => 123 | 0 => 0 | 53 => 135 | 55 => 137 | 4 => 4 | 46 => 128 | 45 => 127 | 50 => 132 | 5 => 5 | 9 => 9 | 66 => 143 | 70 => 147 | 76 => 151 | 77 => 55 | n => n, fun | n => n⟩
theorem sortPt : SlLaysF0.n6 Try.prog sortPt_ren := {
  mixed := by kernel_rfl,
  f6 := ⟨Try.f108.name, by decide, Try.func108.trans (congrArg some (by kernel_rfl))⟩,
  f14 := ⟨Try.f125.name, by decide, Try.func125.trans (congrArg some (by kernel_rfl))⟩,
  f15 := Try.func126.trans (congrArg some (by kernel_rfl)),
  f20 := ⟨Try.f130.name, by decide, Try.func130.trans (congrArg some (by kernel_rfl))⟩,
  f21 := ⟨Try.f131.name, by decide, Try.func131.trans (congrArg some (by kernel_rfl))⟩,
  f22 := ⟨Try.f132.name, by decide, Try.func132.trans (congrArg some (by kernel_rfl))⟩,
  f23 := ⟨Try.f133.name, by decide, Try.func133.trans (congrArg some (by kernel_rfl))⟩,
  f24 := ⟨Try.f134.name, by decide, Try.func134.trans (congrArg some (by kernel_rfl))⟩,
  f25 := ⟨Try.f135.name, by decide, Try.func135.trans (congrArg some (by kernel_rfl))⟩,
  f26 := ⟨Try.f136.name, by decide, Try.func136.trans (congrArg some (by kernel_rfl))⟩,
  f27 := ⟨Try.f137.name, by decide, Try.func137.trans (congrArg some (by kernel_rfl))⟩,
  f28 := Try.func138.trans (congrArg some (by kernel_rfl)),
  f29 := Try.func139.trans (congrArg some (by kernel_rfl)),
  f46 := ⟨Try.f148.name, by decide, Try.func148.trans (congrArg some (by kernel_rfl))⟩,
  f47 := Try.func149.trans (congrArg some (by kernel_rfl)),
  f48 := Try.func150.trans (congrArg some (by kernel_rfl)),
  f49 := ⟨Try.f151.name, by decide, Try.func151.trans (congrArg some (by kernel_rfl))⟩,
  f50 := ⟨Try.f152.name, by decide, Try.func152.trans (congrArg some (by kernel_rfl))⟩,
  f57 := ⟨Try.f156.name, by decide, Try.func156.trans (congrArg some (by kernel_rfl))⟩,
  t0 := Try.underlying0,
  a0 := Try.isAgg0,
  z0 := Try.sizeOf0,
  v0 := Try.zeroValue0,
  t3 := Try.underlying3,
  a3 := Try.isAgg3,
  z3 := Try.sizeOf3,
  v3 := Try.zeroValue3,
  t4 := Try.underlying4,
  a4 := Try.isAgg4,
  z4 := Try.sizeOf4,
  v4 := Try.zeroValue4,
  t5 := Try.underlying5,
  a5 := Try.isAgg5,
  z5 := Try.sizeOf5,
  v5 := Try.zeroValue5,
  t9 := Try.underlying9,
  a9 := Try.isAgg9,
  z9 := Try.sizeOf9,
  v9 := Try.zeroValue9,
  t22 := Try.underlying31,
  a22 := Try.isAgg31,
  z22 := Try.sizeOf31,
  v22 := Try.zeroValue31,
  t25 := Try.underlying84,
  a25 := Try.isAgg84,
  z25 := Try.sizeOf84,
  v25 := Try.zeroValue84,
  t39 := Try.underlying123,
  a39 := Try.isAgg123,
  z39 := Try.sizeOf123,
  v39 := Try.zeroValue123,
  t45 := Try.underlying127,
  a45 := Try.isAgg127,
  z45 := Try.sizeOf127,
  v45 := Try.zeroValue127,
  t46 := Try.underlying128,
  a46 := Try.isAgg128,
  z46 := Try.sizeOf128,
  v46 := Try.zeroValue128,
  t50 := Try.underlying132,
  a50 := Try.isAgg132,
  z50 := Try.sizeOf132,
  v50 := Try.zeroValue132,
  t53 := Try.underlying135,
  a53 := Try.isAgg135,
  z53 := Try.sizeOf135,
  v53 := Try.zeroValue135,
  t55 := Try.underlying137,
  a55 := Try.isAgg137,
  z55 := Try.sizeOf137,
  v55 := Try.zeroValue137,
  t66 := Try.underlying143,
  a66 := Try.isAgg143,
  z66 := Try.sizeOf143,
  v66 := Try.zeroValue143,
  t70 := Try.underlying147,
  a70 := Try.isAgg147,
  z70 := Try.sizeOf147,
  v70 := Try.zeroValue147,
  t76 := Try.underlying151,
  a76 := Try.isAgg151,
  z76 := Try.sizeOf151,
  v76 := Try.zeroValue151,
  t77 := Try.underlying55,
  a77 := Try.isAgg55,
  z77 := Try.sizeOf55,
  v77 := Try.zeroValue55 }
end Go.Pv.Geo

set_option linter.unusedVariables false
set_option linter.unusedSimpArgs false
namespace Go.Pv.Geo
/-! The chain of the hull, plain. -/
/-- A linear order of places: by x, then by y. -/
def key (p : Pt) : Int := 4000001 * p.x + p.y
theorem key_lt {p q : Pt} (hp : ptOK p = true) (hq : ptOK q = true) : key p < key q ↔ p.x < q.x ∨ (p.x = q.x ∧ p.y < q.y) := by
  have := pt_bd hp; have := pt_bd hq
  unfold key; omega
theorem key_inj {p q : Pt} (hp : ptOK p = true) (hq : ptOK q = true) (h : key p = key q) : p = q := by
  have := pt_bd hp; have := pt_bd hq
  unfold key at h
  obtain ⟨a, b⟩ := p; obtain ⟨c, d⟩ := q
  simp only [Pt.mk.injEq] at *
  omega
/-- The order, turned or not. -/
def tau (s : Int) (p : Pt) : Int := s * key p
theorem plucker (s : Int) (a b c d : Pt) : (tau s b - tau s a) * crossE a c d - (tau s c - tau s a) * crossE a b d + (tau s d - tau s a) * crossE a b c = 0 := by
  unfold tau key crossE; grind
theorem cross_rot (a b c : Pt) : crossE a b c = crossE b c a := by unfold crossE; grind
theorem cross_sw (a b c : Pt) : crossE a b c = -crossE a c b := by unfold crossE; grind
theorem cross_sw' (a b c : Pt) : crossE a b c = -crossE b a c := by unfold crossE; grind
theorem cross_self (a b : Pt) : crossE a b b = 0 := by unfold crossE; grind
theorem cross_self' (a b : Pt) : crossE a b a = 0 := by unfold crossE; grind
/-- u (v x w) = v (u x w) - w (u x v), with numbers only. -/
theorem sgn3 {tu tv tw uv uw vw : Int} (h : tu * vw - tv * uw + tw * uv = 0) (hu : 0 < tu) (h1 : 0 ≤ tv) (h2 : 0 ≤ uw) (h3 : 0 ≤ tw) (h4 : uv ≤ 0) : 0 ≤ vw := by
  have a1 := Int.mul_nonneg h1 h2
  have a2 := Int.mul_nonneg h3 (show 0 ≤ -uv by omega)
  rw [Int.mul_neg] at a2
  have a3 : 0 ≤ tu * vw := by omega
  exact Int.nonneg_of_mul_nonneg_right a3 hu
variable {s : Int}
/-- From the edges a b and b p to the edge a p, if the turn at b is not to the left. -/
theorem pop_first {a b p r : Pt} (h1 : tau s a < tau s b) (h2 : tau s b < tau s p) (hc : crossE a b p ≤ 0) (h3 : tau s a ≤ tau s r) (h4 : tau s r ≤ tau s b) (hr : 0 ≤ crossE a b r) : 0 ≤ crossE a p r :=
  sgn3 (plucker s a b p r) (by omega) (by omega) hr (by omega) hc
theorem pop_second {a b p r : Pt} (h1 : tau s a < tau s b) (h2 : tau s b < tau s p) (hc : crossE a b p ≤ 0) (h3 : tau s b ≤ tau s r) (h4 : tau s r ≤ tau s p) (hr : 0 ≤ crossE b p r) : 0 ≤ crossE a p r := by
  -- at p: a, b, r
  have h := plucker s p b a r
  have e1 : crossE p a r = -crossE a p r := cross_sw' _ _ _
  have e2 : crossE p b r = -crossE b p r := cross_sw' _ _ _
  have e3 : crossE p b a = -crossE a b p := by rw [cross_rot a b p, cross_rot b p a, cross_sw p b a]
  rw [e1, e2, e3] at h
  refine sgn3 (tu := tau s p - tau s b) (tv := tau s p - tau s a) (tw := tau s p - tau s r) (uv := crossE a b p) (uw := crossE b p r) ?_ (by omega) (by omega) hr (by omega) hc
  grind
/-- Left of the edge b c, behind b, and the turn at b is to the left: left of a b. -/
theorem down_edge {a b c r : Pt} (h1 : tau s a < tau s b) (h2 : tau s b < tau s c) (hc : 0 < crossE a b c) (h3 : tau s b ≤ tau s r) (hr : 0 ≤ crossE b c r) : 0 ≤ crossE a b r ∧ (crossE a b r = 0 → tau s r ≤ tau s b) := by
  have h := plucker s b a c r
  have e1 : crossE b a r = -crossE a b r := cross_sw' _ _ _
  have e2 : crossE b a c = -crossE a b c := cross_sw' _ _ _
  rw [e1, e2] at h
  have k1 := Int.mul_nonneg (show 0 ≤ tau s b - tau s a by omega) hr
  have k2 := Int.mul_nonneg (show 0 ≤ tau s r - tau s b by omega) (show 0 ≤ crossE a b c by omega)
  have e : (tau s c - tau s b) * crossE a b r = (tau s b - tau s a) * crossE b c r + (tau s r - tau s b) * crossE a b c := by grind
  refine ⟨Int.nonneg_of_mul_nonneg_right (a := tau s c - tau s b) (by omega) (by omega), fun h0 => ?_⟩
  rw [h0, Int.mul_zero] at e
  have k3 : (tau s r - tau s b) * crossE a b c = 0 := by omega
  rcases Int.mul_eq_zero.1 k3 with h | h <;> omega
/-- Left of the edge a b, ahead of b, and the turn at b is to the left: left of b c. -/
theorem up_edge {a b c r : Pt} (h1 : tau s a < tau s b) (h2 : tau s b < tau s c) (hc : 0 < crossE a b c) (h3 : tau s r ≤ tau s b) (hr : 0 ≤ crossE a b r) : 0 ≤ crossE b c r ∧ (crossE b c r = 0 → tau s b ≤ tau s r) := by
  have h := plucker s b a c r
  have e1 : crossE b a r = -crossE a b r := cross_sw' _ _ _
  have e2 : crossE b a c = -crossE a b c := cross_sw' _ _ _
  rw [e1, e2] at h
  have k1 := Int.mul_nonneg (show 0 ≤ tau s c - tau s b by omega) hr
  have k2 := Int.mul_nonneg (show 0 ≤ tau s b - tau s r by omega) (show 0 ≤ crossE a b c by omega)
  have e : (tau s b - tau s a) * crossE b c r = (tau s c - tau s b) * crossE a b r + (tau s b - tau s r) * crossE a b c := by grind
  refine ⟨Int.nonneg_of_mul_nonneg_right (a := tau s b - tau s a) (by omega) (by omega), fun h0 => ?_⟩
  rw [h0, Int.mul_zero] at e
  have k3 : (tau s b - tau s r) * crossE a b c = 0 := by omega
  rcases Int.mul_eq_zero.1 k3 with h | h <;> omega
/-- What is popped for a new place; the stack's top comes first. -/
def popS (p : Pt) : List Pt → List Pt
  | b :: a :: t => if crossE a b p ≤ 0 then popS p (a :: t) else b :: a :: t
  | t => t
def chain (l : List Pt) : List Pt := l.foldl (fun t p => p :: popS p t) []
/-- Each one comes behind the next one of the stack. -/
def Dec (s : Int) : List Pt → Prop
  | b :: a :: t => tau s a < tau s b ∧ Dec s (a :: t)
  | _ => True
def Cvx : List Pt → Prop
  | c :: b :: a :: t => 0 < crossE a b c ∧ Cvx (b :: a :: t)
  | _ => True
/-- A place is between the ends of an edge, and not on its right side. -/
def Cov (s : Int) : List Pt → Pt → Prop
  | [], _ => False
  | [a], r => r = a
  | b :: a :: t, r => (tau s a ≤ tau s r ∧ tau s r ≤ tau s b ∧ 0 ≤ crossE a b r) ∨ Cov s (a :: t) r
theorem cov_le {b : Pt} {t : List Pt} {r : Pt} (hd : Dec s (b :: t)) (h : Cov s (b :: t) r) : tau s r ≤ tau s b := by
  induction t generalizing b with
  | nil => cases h; exact Int.le_refl _
  | cons a t ih =>
    rcases h with h | h
    · exact h.2.1
    · have := ih hd.2 h; have := hd.1; omega
theorem pop_dec {p : Pt} : ∀ {t : List Pt}, Dec s (p :: t) → Dec s (p :: popS p t)
  | [], h => h
  | [a], h => h
  | b :: a :: t, h => by
    rw [popS]
    split
    · exact pop_dec (t := a :: t) ⟨by have := h.1; have := h.2.1; omega, h.2.2⟩
    · exact h
theorem pop_cvx {p : Pt} : ∀ {t : List Pt}, Cvx t → Cvx (p :: popS p t)
  | [], h => trivial
  | [a], h => trivial
  | b :: a :: t, h => by
    rw [popS]
    split
    · refine pop_cvx (t := a :: t) ?_
      cases t with
      | nil => trivial
      | cons a' t => exact h.2
    · exact ⟨by omega, h⟩
theorem pop_cov {p r : Pt} : ∀ {t : List Pt}, Dec s (p :: t) → Cov s (p :: t) r → Cov s (p :: popS p t) r
  | [], _, h => h
  | [a], _, h => h
  | b :: a :: t, hd, h => by
    rw [popS]
    split
    · rename_i hc
      have h1 := hd.2.1
      have h2 := hd.1
      refine pop_cov (t := a :: t) ⟨by omega, hd.2.2⟩ ?_
      rcases h with h | h | h
      · exact .inl ⟨by omega, h.2.1, pop_second h1 h2 hc h.1 h.2.1 h.2.2⟩
      · exact .inl ⟨h.1, by omega, pop_first h1 h2 hc h.1 h.2.1 h.2.2⟩
      · exact .inr h
    · exact h
theorem pop_ne {p : Pt} : ∀ {t : List Pt}, t ≠ [] → popS p t ≠ []
  | [a], h => h
  | b :: a :: t, h => by
    rw [popS]; split
    · exact pop_ne (by simp)
    · exact h
theorem pop_last {p : Pt} : ∀ {t : List Pt}, (popS p t).getLast? = t.getLast?
  | [] => rfl
  | [a] => rfl
  | b :: a :: t => by
    rw [popS]; split
    · rw [pop_last]; rfl
    · rfl
theorem pop_mem {p r : Pt} : ∀ {t : List Pt}, r ∈ popS p t → r ∈ t
  | [], h => h
  | [a], h => h
  | b :: a :: t, h => by
    rw [popS] at h; split at h
    · exact List.mem_cons_of_mem _ (pop_mem h)
    · exact h
/-- What holds of the stack when some places, in order, have been laid. -/
structure Stk (s : Int) (l t : List Pt) : Prop where
  dec : Dec s t
  cvx : Cvx t
  cov : ∀ r ∈ l, Cov s t r
  mem : ∀ r ∈ t, r ∈ l
  head : t.head? = l.getLast?
  last : t.getLast? = l.head?
theorem stk_nil : Stk s [] [] := ⟨trivial, trivial, by simp, by simp, rfl, rfl⟩
theorem stk_step {l t : List Pt} {p : Pt} (h : Stk s l t) (hp : ∀ q ∈ l, tau s q < tau s p) : Stk s (l ++ [p]) (p :: popS p t) := by
  have hd : Dec s (p :: t) := by
    cases t with
    | nil => trivial
    | cons b t => exact ⟨hp b (h.mem b (by simp)), h.dec⟩
  refine ⟨pop_dec hd, pop_cvx h.cvx, ?_, ?_, by simp, ?_⟩
  · intro r hr
    refine pop_cov hd ?_
    rcases List.mem_append.1 hr with hr | hr
    · cases t with
      | nil => exact absurd (h.cov r hr) (by simp [Cov])
      | cons b t => exact .inr (h.cov r hr)
    · obtain rfl : r = p := by simpa using hr
      cases t with
      | nil => rfl
      | cons b t => exact .inl ⟨by have := hd.1; omega, Int.le_refl _, by rw [cross_self]; exact Int.le_refl _⟩
  · intro r hr
    rcases List.mem_cons.1 hr with rfl | hr
    · simp
    · exact List.mem_append.2 (.inl (h.mem r (pop_mem hr)))
  · cases l with
    | nil =>
      have : t = [] := by have := h.head; cases t <;> simp_all
      subst this; rfl
    | cons q l =>
      have ht : t ≠ [] := fun e => by subst e; have := h.last; simp at this
      have hn := pop_ne (p := p) ht
      rw [List.getLast?_cons, pop_last, h.last]; simp
theorem stk_fold {s : Int} : ∀ (l : List Pt) {l0 t : List Pt}, Stk s l0 t → (l0 ++ l).Pairwise (fun a b => tau s a < tau s b) → Stk s (l0 ++ l) (l.foldl (fun t p => p :: popS p t) t)
  | [], l0, t, h, _ => by simpa using h
  | p :: l, l0, t, h, hw => by
    have h1 := stk_step h (p := p) (fun q hq => (List.pairwise_append.1 hw).2.2 q hq p (by simp))
    have := stk_fold l h1 (by simpa using hw)
    simpa using this
theorem stk_chain {l : List Pt} (hw : l.Pairwise (fun a b => tau s a < tau s b)) : Stk s l (chain l) := by
  have := stk_fold l (stk_nil (s := s)) (by simpa using hw)
  simpa [chain] using this
/-- Left of all edges; on one only between its ends. -/
def LeftS (s : Int) : List Pt → Pt → Prop
  | b :: a :: t, r => (0 ≤ crossE a b r ∧ (crossE a b r = 0 → tau s a ≤ tau s r ∧ tau s r ≤ tau s b)) ∧ LeftS s (a :: t) r
  | _, _ => True
theorem left_down {r : Pt} : ∀ {t : List Pt} {b a : Pt}, Dec s (b :: a :: t) → Cvx (b :: a :: t) → tau s a ≤ tau s r → 0 ≤ crossE a b r → LeftS s (a :: t) r
  | [], b, a, _, _, _, _ => trivial
  | a' :: t, b, a, hd, hc, h1, h2 => by
    have := down_edge hd.2.1 hd.1 hc.1 h1 h2
    have h3 := hd.2.1
    exact ⟨⟨this.1, fun e => ⟨by omega, this.2 e⟩⟩, left_down hd.2 hc.2 (by omega) this.1⟩
theorem left_all {r : Pt} : ∀ {t : List Pt}, Dec s t → Cvx t → Cov s t r → LeftS s t r
  | [], _, _, _ => trivial
  | [a], _, _, _ => trivial
  | b :: a :: t, hd, hc, h => by
    rcases h with h | h
    · exact ⟨⟨h.2.2, fun _ => ⟨h.1, h.2.1⟩⟩, left_down hd hc h.1 h.2.2⟩
    · have hl := left_all hd.2 (by cases t with | nil => trivial | cons a' t => exact hc.2) h
      have hle := cov_le hd.2 h
      refine ⟨?_, hl⟩
      cases t with
      | nil =>
        cases h
        exact ⟨by rw [cross_self']; exact Int.le_refl _, fun _ => ⟨Int.le_refl _, by have := hd.1; omega⟩⟩
      | cons a' t =>
        have hh := up_edge hd.2.1 hd.1 hc.1 hle hl.1.1
        have := hd.1
        exact ⟨hh.1, fun e => ⟨hh.2 e, by omega⟩⟩
end Go.Pv.Geo

set_option linter.unusedVariables false
set_option linter.unusedSimpArgs false
namespace Go.Pv.Geo
/-! The hull's edges, and the walk around it, plain. -/
theorem nodup_len {α : Type} [DecidableEq α] : ∀ {l L : List α}, l.Nodup → (∀ x ∈ l, x ∈ L) → l.length ≤ L.length
  | [], L, _, _ => Nat.zero_le _
  | x :: l, L, hn, hs => by
    have hx := hs x (by simp)
    have hn' := List.nodup_cons.1 hn
    have h1 := nodup_len (l := l) (L := L.erase x) hn'.2 (fun y hy => by
      have : y ≠ x := fun e => hn'.1 (e ▸ hy)
      exact (List.mem_erase_of_ne this).2 (hs y (by simp [hy])))
    rw [List.length_erase_of_mem hx] at h1
    have := List.length_pos_of_mem hx
    simp only [List.length_cons]; omega
/-- b is behind a on the hull of L: all places are left of a b, or between. -/
def Btw (a b r : Pt) : Prop := (key a ≤ key r ∧ key r ≤ key b) ∨ (key b ≤ key r ∧ key r ≤ key a)
structure Edge (L : List Pt) (a b : Pt) : Prop where
  ne : key a ≠ key b
  mem : b ∈ L
  left : ∀ r ∈ L, 0 ≤ crossE a b r
  btw : ∀ r ∈ L, crossE a b r = 0 → Btw a b r
theorem between_of {tv tw vx wx : Int} (h : tv * wx = vx * tw) (hv : 0 < tv) (h0 : 0 ≤ tw) (h1 : tw ≤ tv) : (0 ≤ wx ∧ wx ≤ vx) ∨ (vx ≤ wx ∧ wx ≤ 0) := by
  rcases Int.le_total 0 vx with hx | hx
  · left
    have a1 := Int.mul_nonneg hx h0
    have a2 := Int.mul_nonneg hx (show 0 ≤ tv - tw by omega)
    rw [Int.mul_sub] at a2
    have a3 : 0 ≤ tv * wx := by omega
    have a4 : 0 ≤ tv * (vx - wx) := by rw [Int.mul_sub, Int.mul_comm tv vx]; omega
    have := Int.nonneg_of_mul_nonneg_right a3 hv
    have := Int.nonneg_of_mul_nonneg_right a4 hv
    omega
  · right
    have a1 := Int.mul_nonneg (show 0 ≤ -vx by omega) h0
    have a2 := Int.mul_nonneg (show 0 ≤ -vx by omega) (show 0 ≤ tv - tw by omega)
    rw [Int.mul_sub] at a2
    rw [Int.neg_mul] at a1 a2
    rw [Int.neg_mul] at a2
    have a3 : 0 ≤ tv * (-wx) := by rw [Int.mul_neg]; omega
    have a4 : 0 ≤ tv * (wx - vx) := by rw [Int.mul_sub, Int.mul_comm tv vx]; omega
    have := Int.nonneg_of_mul_nonneg_right a3 hv
    have := Int.nonneg_of_mul_nonneg_right a4 hv
    omega
theorem on_of_btw {a b r : Pt} (hk : key a ≠ key b) (h0 : crossE a b r = 0) (hb : Btw a b r) : onE a b r = true := by
  have hx : (key b - key a) * (r.x - a.x) = (b.x - a.x) * (key r - key a) := by
    unfold crossE at h0; unfold key; grind
  have hy : (key b - key a) * (r.y - a.y) = (b.y - a.y) * (key r - key a) := by
    unfold crossE at h0; unfold key; grind
  refine decide_eq_true ⟨h0, ?_⟩
  rcases hb with hb | hb
  · have h1 := between_of hx (by omega) (by omega) (by omega)
    have h2 := between_of hy (by omega) (by omega) (by omega)
    omega
  · have h1 := between_of (tv := key a - key b) (tw := key a - key r) (wx := r.x - a.x) (vx := b.x - a.x) (by grind) (by omega) (by omega) (by omega)
    have h2 := between_of (tv := key a - key b) (tw := key a - key r) (wx := r.y - a.y) (vx := b.y - a.y) (by grind) (by omega) (by omega) (by omega)
    omega
theorem sq_box {u v : Int} (h : (0 ≤ u ∧ u ≤ v) ∨ (v ≤ u ∧ u ≤ 0)) : u * u < v * v ∨ u = v := by
  by_cases e : u = v
  · exact .inr e
  · left
    rcases h with h | h
    · have h1 := Int.mul_le_mul_of_nonneg_left (show u ≤ v by omega) h.1
      have h2 := Int.mul_lt_mul_of_pos_right (show u < v by omega) (show 0 < v by omega)
      omega
    · have h1 := Int.mul_le_mul_of_nonneg_left (show -u ≤ -v by omega) (show 0 ≤ -u by omega)
      have h2 := Int.mul_lt_mul_of_pos_right (show -u < -v by omega) (show 0 < -v by omega)
      simp only [Int.neg_mul_neg] at h1 h2
      omega
theorem sq_of_on {a b r : Pt} (h : onE a b r = true) : sqE a r < sqE a b ∨ r = b := by
  have h := (of_decide_eq_true h).2
  have h1 := sq_box (u := r.x - a.x) (v := b.x - a.x) (by omega)
  have h2 := sq_box (u := r.y - a.y) (v := b.y - a.y) (by omega)
  have e1 : sqE a r = (r.x - a.x) * (r.x - a.x) + (r.y - a.y) * (r.y - a.y) := rfl
  have e2 : sqE a b = (b.x - a.x) * (b.x - a.x) + (b.y - a.y) * (b.y - a.y) := rfl
  rcases h1 with h1 | h1 <;> rcases h2 with h2 | h2
  · left; omega
  · left; rw [h2] at e1; omega
  · left; rw [h1] at e1; omega
  · right; obtain ⟨rx, ry⟩ := r; obtain ⟨bx, by'⟩ := b; simp only [Pt.mk.injEq]; simp only at h1 h2; omega
theorem Edge.on {L : List Pt} {a b r : Pt} (h : Edge L a b) (hr : r ∈ L) (h0 : crossE a b r = 0) : onE a b r = true := on_of_btw h.ne h0 (h.btw r hr h0)
theorem Edge.sq {L : List Pt} {a b r : Pt} (h : Edge L a b) (hr : r ∈ L) (h0 : crossE a b r = 0) : sqE a r < sqE a b ∨ r = b := sq_of_on (h.on hr h0)
theorem left_get {s : Int} {r : Pt} : ∀ {t : List Pt}, LeftS s t r → ∀ i (h : i + 1 < t.length), 0 ≤ crossE t[i+1] t[i] r ∧ (crossE t[i+1] t[i] r = 0 → tau s t[i+1] ≤ tau s r ∧ tau s r ≤ tau s t[i])
  | b :: a :: t, h, 0, _ => h.1
  | b :: a :: t, h, i + 1, hi => left_get (t := a :: t) h.2 i (by simpa using hi)
theorem dec_get {s : Int} : ∀ {t : List Pt}, Dec s t → ∀ i (h : i + 1 < t.length), tau s t[i+1] < tau s t[i]
  | b :: a :: t, h, 0, _ => h.1
  | b :: a :: t, h, i + 1, hi => dec_get (t := a :: t) h.2 i (by simpa using hi)
theorem dec_lt {s : Int} {t : List Pt} (h : Dec s t) : ∀ i k (hik : i < k) (hk : k < t.length), tau s t[k] < tau s t[i] := by
  intro i k hik hk
  induction k with
  | zero => omega
  | succ k ih =>
    have h1 := dec_get h k hk
    by_cases e : i = k
    · subst e; exact h1
    · have := ih (by omega) (by omega); omega
/-- The bottom comes first. -/
structure Path (L : List Pt) (s : Int) (P : List Pt) : Prop where
  edge : ∀ i (h : i + 1 < P.length), Edge L P[i] P[i+1]
  inc : ∀ i k (hik : i < k) (hk : k < P.length), tau s P[i] < tau s P[k]
theorem path_of {L l t : List Pt} {s : Int} (hs : s = 1 ∨ s = -1) (h : Stk s l t) (hL : ∀ r, r ∈ L ↔ r ∈ l) : Path L s t.reverse := by
  refine ⟨fun i hi => ?_, fun i k hik hk => ?_⟩
  · rw [List.length_reverse] at hi
    have e1 : t.reverse[i]'(by simp; omega) = t[(t.length - 1 - (i + 1)) + 1]'(by omega) := by
      rw [List.getElem_reverse]; congr 1; omega
    have e2 : t.reverse[i+1]'(by simp; omega) = t[t.length - 1 - (i + 1)]'(by omega) := by rw [List.getElem_reverse]
    have hd := dec_get h.dec (t.length - 1 - (i + 1)) (by omega)
    refine ⟨?_, ?_, fun r hr => ?_, fun r hr h0 => ?_⟩
    · intro e
      rw [e1, e2] at e
      unfold tau at hd; rw [e] at hd; omega
    · rw [e2]; exact (hL _).2 (h.mem _ (List.getElem_mem _))
    · have := left_get (left_all h.dec h.cvx (h.cov r ((hL r).1 hr))) (t.length - 1 - (i + 1)) (by omega)
      rw [e1, e2]; exact this.1
    · have := left_get (left_all h.dec h.cvx (h.cov r ((hL r).1 hr))) (t.length - 1 - (i + 1)) (by omega)
      rw [e1, e2] at h0 ⊢
      have := this.2 h0
      unfold tau at this
      unfold Btw
      rcases hs with rfl | rfl <;> omega
  · rw [List.length_reverse] at hk
    rw [List.getElem_reverse, List.getElem_reverse]
    exact dec_lt h.dec _ _ (by omega) (by omega)
/-- The corners of the hull of places in order. -/
def hullL (l : List Pt) : List Pt := (chain l).tail.reverse ++ (chain l.reverse).tail.reverse
end Go.Pv.Geo

set_option linter.unusedVariables false
set_option linter.unusedSimpArgs false
namespace Go.Pv.Geo
/-! The hull of places in order: its corners follow each other by edges, and are different. -/
theorem rev_take (t : List Pt) : t.tail.reverse = t.reverse.take (t.length - 1) := by
  cases t with
  | nil => rfl
  | cons a t => simp
structure HullOf (L H : List Pt) : Prop where
  len : 2 ≤ H.length
  len' : H.length ≤ L.length
  edge : ∀ i (h : i < H.length), Edge L H[i] (H[(i + 1) % H.length]'(Nat.mod_lt _ (by omega)))
  nodup : H.Nodup
  mem : ∀ p ∈ H, p ∈ L
theorem hull_of {L l : List Pt} (hl : l.Pairwise fun a b => key a < key b) (h2 : 2 ≤ l.length) (hL : ∀ r, r ∈ L ↔ r ∈ l) : HullOf L (hullL l) ∧ (hullL l).head? = l.head? := by
  have k1 : Stk 1 l (chain l) := stk_chain (hl.imp (by unfold tau; intros; omega))
  have k2 : Stk (-1) l.reverse (chain l.reverse) := stk_chain (List.pairwise_reverse.2 (hl.imp (by unfold tau; intros; omega)))
  have p1 := path_of (.inl rfl) k1 hL
  have p2 := path_of (.inr rfl) k2 (fun r => by rw [hL]; simp)
  obtain ⟨P, hP⟩ : ∃ P, (chain l).reverse = P := ⟨_, rfl⟩
  obtain ⟨Q, hQ⟩ : ∃ Q, (chain l.reverse).reverse = Q := ⟨_, rfl⟩
  have hH : hullL l = P.take (P.length - 1) ++ Q.take (Q.length - 1) := by
    unfold hullL
    rw [rev_take, rev_take, hP, hQ, ← hP, ← hQ]; simp
  rw [hP] at p1
  rw [hQ] at p2
  -- the ends
  have e0 : P.head? = l.head? := by rw [← hP, List.head?_reverse]; exact k1.last
  have e1 : P.getLast? = l.getLast? := by rw [← hP, List.getLast?_reverse]; exact k1.head
  have e2 : Q.head? = l.getLast? := by rw [← hQ, List.head?_reverse, k2.last]; simp
  have e3 : Q.getLast? = l.head? := by rw [← hQ, List.getLast?_reverse, k2.head]; simp
  have l0 : 0 < l.length := by omega
  have hne : key l[0] < key l[l.length - 1] := (List.pairwise_iff_getElem.1 hl) 0 (l.length - 1) (by omega) (by omega) (by omega)
  have f0 : l.head? = some l[0] := by rw [List.head?_eq_getElem?, List.getElem?_eq_getElem]
  have f1 : l.getLast? = some l[l.length - 1] := by rw [List.getLast?_eq_getElem?, List.getElem?_eq_getElem]
  have two : ∀ {X : List Pt} {a b : Pt}, X.head? = some a → X.getLast? = some b → key a ≠ key b → 2 ≤ X.length := by
    intro X a b ha hb hab
    match X with
    | [] => simp at ha
    | [x] => simp at ha hb; subst ha; subst hb; exact absurd rfl hab
    | x :: y :: X => simp
  have P2 : 2 ≤ P.length := two (e0.trans f0) (e1.trans f1) (by omega)
  have Q2 : 2 ≤ Q.length := two (e2.trans f1) (e3.trans f0) (by omega)
  have g0 : P[0]'(by omega) = l[0] := by
    have := e0.trans f0
    rw [List.head?_eq_getElem?, List.getElem?_eq_getElem (by omega)] at this; exact Option.some.inj this
  have g1 : P[P.length - 1]'(by omega) = l[l.length - 1] := by
    have := e1.trans f1
    rw [List.getLast?_eq_getElem?, List.getElem?_eq_getElem (by omega)] at this; exact Option.some.inj this
  have g2 : Q[0]'(by omega) = l[l.length - 1] := by
    have := e2.trans f1
    rw [List.head?_eq_getElem?, List.getElem?_eq_getElem (by omega)] at this; exact Option.some.inj this
  have g3 : Q[Q.length - 1]'(by omega) = l[0] := by
    have := e3.trans f0
    rw [List.getLast?_eq_getElem?, List.getElem?_eq_getElem (by omega)] at this; exact Option.some.inj this
  obtain ⟨m, hm⟩ : ∃ m, P.length = m + 1 := ⟨P.length - 1, by omega⟩
  obtain ⟨n, hn⟩ : ∃ n, Q.length = n + 1 := ⟨Q.length - 1, by omega⟩
  have hlen : (hullL l).length = m + n := by rw [hH, List.length_append, List.length_take, List.length_take]; omega
  have a1 : ∀ i (h : i < m), (hullL l)[i]'(by omega) = P[i]'(by omega) := by
    intro i hi
    simp only [hH]
    rw [List.getElem_append_left (by rw [List.length_take]; omega), List.getElem_take]
  have a2 : ∀ j (h : j < n), (hullL l)[m + j]'(by omega) = Q[j]'(by omega) := by
    intro j hj
    simp only [hH]
    rw [List.getElem_append_right (by rw [List.length_take]; omega), List.getElem_take]
    congr 1; rw [List.length_take]; omega
  have eP : P[m]'(by omega) = Q[0]'(by omega) := by rw [g2, ← g1]; congr 1; omega
  have eQ : Q[n]'(by omega) = P[0]'(by omega) := by rw [g0, ← g3]; congr 1; omega
  have n1 : ∀ i (h : i < m), (hullL l)[(i + 1) % (hullL l).length]'(Nat.mod_lt _ (by omega)) = P[i + 1]'(by omega) := by
    intro i hi
    have : (i + 1) % (hullL l).length = i + 1 := Nat.mod_eq_of_lt (by omega)
    simp only [this]
    by_cases h : i + 1 < m
    · exact a1 _ h
    · have : i + 1 = m := by omega
      subst this
      rw [eP]
      have := a2 0 (by omega)
      simpa using this
  have n2 : ∀ j (h : j < n), (hullL l)[(m + j + 1) % (hullL l).length]'(Nat.mod_lt _ (by omega)) = Q[j + 1]'(by omega) := by
    intro j hj
    by_cases h : j + 1 < n
    · have e : (m + j + 1) % (hullL l).length = m + (j + 1) := by rw [Nat.mod_eq_of_lt (by omega)]; omega
      simp only [e]
      exact a2 _ h
    · have e : (m + j + 1) % (hullL l).length = 0 := by rw [show m + j + 1 = (hullL l).length by omega]; exact Nat.mod_self _
      have : j + 1 = n := by omega
      subst this
      simp only [e]
      rw [eQ]
      exact a1 0 (by omega)
  have edge : ∀ i (h : i < (hullL l).length), Edge L (hullL l)[i] ((hullL l)[(i + 1) % (hullL l).length]'(Nat.mod_lt _ (by omega))) := by
    intro i hi
    by_cases h : i < m
    · rw [n1 i h, a1 i h]; exact p1.edge i (by omega)
    · obtain ⟨j, rfl⟩ : ∃ j, i = m + j := ⟨i - m, by omega⟩
      rw [n2 j (by omega), a2 j (by omega)]; exact p2.edge j (by omega)
  have hmem : ∀ p ∈ hullL l, p ∈ L := by
    intro p hp
    obtain ⟨i, hi, rfl⟩ := List.getElem_of_mem hp
    have := k1.mem
    by_cases h : i < m
    · rw [a1 i h, hL]
      exact k1.mem _ (by rw [← List.mem_reverse, hP]; exact List.getElem_mem _)
    · obtain ⟨j, rfl⟩ : ∃ j, i = m + j := ⟨i - m, by omega⟩
      rw [a2 j (by omega), hL]
      have := k2.mem (Q[j]'(by omega)) (by rw [← List.mem_reverse, hQ]; exact List.getElem_mem _)
      simpa using this
  have inc1 : ∀ i k (hik : i < k) (hk : k < P.length), key P[i] < key P[k] := fun i k hik hk => by have := p1.inc i k hik hk; unfold tau at this; omega
  have inc2 : ∀ i k (hik : i < k) (hk : k < Q.length), key Q[k] < key Q[i] := fun i k hik hk => by have := p2.inc i k hik hk; unfold tau at this; omega
  have nodup : (hullL l).Nodup := by
    have memT : ∀ {X : List Pt} {k : Nat} {x : Pt}, x ∈ X.take k → ∃ i, ∃ h : i < X.length, i < k ∧ X[i] = x := by
      intro X k x hx
      obtain ⟨i, hi, rfl⟩ := List.getElem_of_mem hx
      rw [List.length_take] at hi
      exact ⟨i, by omega, by omega, by rw [List.getElem_take]⟩
    rw [hH, List.nodup_append]
    refine ⟨?_, ?_, ?_⟩
    · refine List.pairwise_iff_getElem.2 fun i j hi hj hij e => ?_
      rw [List.length_take] at hi hj
      rw [List.getElem_take, List.getElem_take] at e
      have := inc1 i j hij (by omega)
      rw [e] at this; omega
    · refine List.pairwise_iff_getElem.2 fun i j hi hj hij e => ?_
      rw [List.length_take] at hi hj
      rw [List.getElem_take, List.getElem_take] at e
      have := inc2 i j hij (by omega)
      rw [e] at this; omega
    · intro a ha b hb e
      subst e
      obtain ⟨i, hi, hi', rfl⟩ := memT ha
      obtain ⟨j, hj, hj', e⟩ := memT hb
      have x1 := p1.edge i (by omega)
      have x2 := p2.edge j (by omega)
      rw [e] at x2
      have y1 := inc1 i (i + 1) (by omega) (by omega)
      have y2 := inc2 j (j + 1) (by omega) (by omega)
      rw [e] at y2
      have z1 := x1.left _ x2.mem
      have z2 := x2.left _ x1.mem
      have z3 := cross_sw P[i] P[i+1] Q[j+1]
      have z4 := x1.btw _ x2.mem (by omega)
      unfold Btw at z4
      omega
  refine ⟨⟨by omega, nodup_len nodup hmem, edge, nodup, hmem⟩, ?_⟩
  rw [List.head?_eq_getElem?, List.getElem?_eq_getElem (by omega), f0, a1 0 (by omega), g0]
end Go.Pv.Geo

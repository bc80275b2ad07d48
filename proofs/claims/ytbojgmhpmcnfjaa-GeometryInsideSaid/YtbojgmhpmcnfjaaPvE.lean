import GoSem.Core.Float
import Derived.Test.YtbojgmhpmcnfjaaPvD
/- Part of the proofs over Ytbojgmhpmcnfjaa: PvSq, PwV. -/
set_option linter.unusedVariables false
set_option linter.unusedSimpArgs false
set_option linter.unnecessarySimpa false
/- The root of a small number, rounded, made whole: it is small. Plain. -/
namespace Go.Pv.Sq
open Ieee

theorem binade_eq : double.binade = 4503599627370496 := by decide
theorem inf_eq : double.infRung = 9218868437227405312 := by decide
theorem sw_eq : double.signWeight = 9223372036854775808 := by decide
theorem lp_eq : double.leastPlace = -1074 := by decide
theorem read_lo {r : Nat} (h : r < 4503599627370496) : double.read r = .number false r (-1074) := by
  unfold Format.read
  rw [binade_eq, sw_eq, lp_eq]
  simp only
  rw [Nat.mod_eq_of_lt (show r < 9223372036854775808 by omega), if_pos h, Nat.div_eq_of_lt (by omega)]
  rfl
theorem read_hi {r : Nat} (h1 : 4503599627370496 ≤ r) (h2 : r < 9218868437227405312) : double.read r = .number false (4503599627370496 + r % 4503599627370496) (-1074 + (r / 4503599627370496 - 1 : Nat)) := by
  unfold Format.read
  rw [binade_eq, sw_eq, lp_eq, inf_eq]
  simp only
  rw [Nat.mod_eq_of_lt (show r < 9223372036854775808 by omega), if_neg (by omega), if_pos h2, Nat.div_eq_of_lt (by omega)]
  rfl
theorem log2_bd {n : Nat} (h : n ≠ 0) : 2 ^ n.log2 ≤ n ∧ n < 2 ^ (n.log2 + 1) := ⟨Nat.log2_self_le h, Nat.lt_log2_self⟩
theorem cut_even_le {n drop k : Nat} (h : n < 2 ^ (drop + k)) : Toward.even.cut false n drop ≤ 2 ^ k := by
  unfold Toward.cut
  simp only
  generalize hg : (1 <<< min drop (n.log2 + 2) : Nat) = gap
  rw [Nat.one_shiftLeft] at hg
  have hlow : n / gap < 2 ^ k := by
    rw [← hg]
    by_cases hd : drop ≤ n.log2 + 2
    · rw [Nat.min_eq_left hd]
      rw [Nat.div_lt_iff_lt_mul (Nat.two_pow_pos _), Nat.mul_comm, ← Nat.pow_add]
      exact h
    · rw [Nat.min_eq_right (by omega)]
      rw [Nat.div_eq_of_lt]
      · exact Nat.two_pow_pos _
      · by_cases h0 : n = 0
        · subst h0; exact Nat.two_pow_pos _
        · exact Nat.lt_of_lt_of_le (log2_bd h0).2 (Nat.pow_le_pow_right (by omega) (by omega))
  have : ∀ b : Bool, b.toNat ≤ 1 := fun b => by cases b <;> decide
  have := this (decide (gap < 2 * (n % gap)) || gap == 2 * (n % gap) && n / gap % 2 == 1)
  omega
theorem nearest_bd {mag : Nat} {place last : Int} (h0 : mag ≠ 0) (hl : last = place + mag.log2 - 52) (h1 : -1074 ≤ last) (h2 : last ≤ 900) :
    ∃ kept : Nat, kept ≤ 9007199254740992 ∧ double.nearest false mag place = (last + 1074).toNat * 4503599627370496 + kept := by
  unfold Format.nearest
  rw [if_neg h0]
  have hm : max (place + (mag.log2 : Int) - (double.fractionBits : Nat)) double.leastPlace = last := by
    rw [lp_eq]
    show max (place + (mag.log2 : Int) - ((52 : Nat) : Int)) (-1074) = last
    omega
  simp only [hm]
  rw [binade_eq, inf_eq, lp_eq]
  have hk : Toward.even.cut false (mag <<< (place - last).toNat) (last - place).toNat ≤ 2 ^ 53 := by
    apply cut_even_le
    rw [Nat.shiftLeft_eq]
    have := (log2_bd h0).2
    by_cases hp : last ≤ place
    · have e1 : (last - place).toNat = 0 := by omega
      have e2 : mag.log2 + 1 + (place - last).toNat = 53 := by omega
      rw [e1, Nat.zero_add, ← e2, Nat.pow_add]
      exact Nat.mul_lt_mul_of_pos_right this (Nat.two_pow_pos _)
    · have e1 : (place - last).toNat = 0 := by omega
      have e2 : (last - place).toNat + 53 = mag.log2 + 1 := by omega
      rw [e1, e2, Nat.pow_zero, Nat.mul_one]
      exact this
  generalize Toward.even.cut false (mag <<< (place - last).toNat) (last - place).toNat = kept at hk
  have hk' : kept ≤ 9007199254740992 := by simpa using hk
  refine ⟨kept, hk', ?_⟩
  rw [show (last - -1074).toNat = (last + 1074).toNat by omega, Nat.min_eq_left (by
    have : (last + 1074).toNat ≤ 1974 := by omega
    generalize (last + 1074).toNat = u at this ⊢
    omega)]
  simp [Format.word]
/-- Made whole, towards zero. -/
theorem toInt_bd {m : Nat} {p : Int} (hm : m < 9007199254740992) (hp : p ≤ -29) : ∃ n : Nat, (Datum.number false m p).toInt .zero = some (n : Int) ∧ n ≤ 16777216 := by
  refine ⟨Toward.zero.cut false (m <<< p.toNat) (-p).toNat, ?_, ?_⟩
  · simp [Datum.toInt, Datum.integral, signed]
  · have e : p.toNat = 0 := by omega
    rw [e, Nat.shiftLeft_zero]
    unfold Toward.cut
    simp only [Bool.toNat_false, Nat.add_zero]
    rw [Nat.one_shiftLeft]
    by_cases hd : (-p).toNat ≤ m.log2 + 2
    · rw [Nat.min_eq_left hd]
      have : 2 ^ 29 ≤ 2 ^ (-p).toNat := Nat.pow_le_pow_right (by omega) (by omega)
      have h2 := Nat.div_le_div_left (a := m) this (by decide)
      have h3 : m / 2 ^ 29 ≤ 16777216 := by omega
      omega
    · rw [Nat.min_eq_right (by omega)]
      rw [Nat.div_eq_of_lt]
      · omega
      · by_cases h0 : m = 0
        · subst h0; exact Nat.two_pow_pos _
        · exact Nat.lt_of_lt_of_le (log2_bd h0).2 (Nat.pow_le_pow_right (by omega) (by omega))
theorem back_bd {mag : Nat} {place : Int} (hm : mag.log2 ≤ 56) (h1 : -900 ≤ place) (h2 : place ≤ -34) :
    ∃ n : Nat, (double.read (double.nearest false mag place)).toInt .zero = some (n : Int) ∧ n ≤ 16777216 := by
  by_cases h0 : mag = 0
  · subst h0
    have : double.nearest false 0 place = 0 := by simp [Format.nearest, Format.word]
    rw [this, read_lo (by decide)]
    exact toInt_bd (by decide) (by decide)
  · obtain ⟨kept, hk, he⟩ := nearest_bd (last := place + mag.log2 - 52) h0 rfl (by omega) (by omega)
    rw [he]
    generalize hr : (place + (mag.log2 : Int) - 52 + 1074).toNat * 4503599627370496 + kept = r
    have hr' : r ≤ 1046 * 4503599627370496 := by
      have : (place + (mag.log2 : Int) - 52 + 1074).toNat ≤ 1044 := by omega
      have := Nat.mul_le_mul_right 4503599627370496 this
      omega
    by_cases hlo : r < 4503599627370496
    · rw [read_lo hlo]
      exact toInt_bd (by omega) (by decide)
    · rw [read_hi (by omega) (by omega)]
      exact toInt_bd (by omega) (by omega)
theorem rootFrom_sq (n : Nat) : ∀ (todo root : Nat), root * root ≤ n → Datum.rootFrom n todo root * Datum.rootFrom n todo root ≤ n
  | 0, root, h => h
  | todo + 1, root, h => by
    simp only [Datum.rootFrom]
    split
    · rename_i h'; exact rootFrom_sq n todo _ h'
    · exact rootFrom_sq n todo _ h
/-- The root of a word that stands for a number below 2 ^ 43. -/
theorem root_bd {kept : Nat} {i : Int} (hk : kept ≠ 0) (hk2 : kept < 9007199254740992) (h1 : -60 ≤ i) (h2 : i ≤ -9) :
    ∃ (mag : Nat) (place : Int), (Datum.number false kept i).root 54 = some (.number false mag place) ∧ mag.log2 ≤ 56 ∧ -900 ≤ place ∧ place ≤ -34 := by
  have hl : kept.log2 ≤ 52 := by
    have := (log2_bd hk).1
    rcases Nat.lt_or_ge kept.log2 53 with h | h
    · omega
    · have h3 : 2 ^ 53 ≤ 2 ^ kept.log2 := Nat.pow_le_pow_right (by omega) h
      omega
  simp only [Datum.root, if_neg hk, Bool.false_eq_true, if_false]
  generalize hmo : 2 * 54 - kept.log2 + ((i - ((2 * 54 - kept.log2 : Nat) : Int)) % 2).toNat = more
  have hm1 : 56 ≤ more ∧ more + kept.log2 ≤ 109 ∧ more ≤ 110 := by omega
  generalize hn : kept <<< more = n
  have hn' : n < 2 ^ 110 := by
    rw [← hn, Nat.shiftLeft_eq]
    have h4 : kept * 2 ^ more < 2 ^ (kept.log2 + 1) * 2 ^ more := Nat.mul_lt_mul_of_pos_right (log2_bd hk).2 (Nat.two_pow_pos _)
    rw [← Nat.pow_add] at h4
    exact Nat.lt_of_lt_of_le h4 (Nat.pow_le_pow_right (by omega) (by omega))
  have hw := rootFrom_sq n (n.log2 / 2 + 1) 0 (by omega)
  generalize Datum.rootFrom n (n.log2 / 2 + 1) 0 = whole at hw
  have hw2 : whole < 2 ^ 55 := by
    rcases Nat.lt_or_ge whole (2 ^ 55) with h | h
    · exact h
    · have := Nat.mul_le_mul h h
      rw [← Nat.pow_add] at this
      omega
  refine ⟨_, _, rfl, ?_, by omega, by omega⟩
  have hb : ∀ b : Bool, b.toNat ≤ 1 := fun b => by cases b <;> decide
  have hb := hb (whole * whole != n)
  generalize hmg : 2 * whole + (whole * whole != n).toNat = mag
  have hmag : mag < 2 ^ 57 := by omega
  by_cases hz : mag = 0
  · rw [hz]; decide
  · have := (log2_bd hz).1
    rcases Nat.lt_or_ge mag.log2 57 with h | h
    · omega
    · have h5 : 2 ^ 57 ≤ 2 ^ mag.log2 := Nat.pow_le_pow_right (by omega) h
      omega
/-- What 'int(math.Sqrt(float64(s)))' comes to. -/
theorem sqrt_small (s : Nat) (hs : s < 8796093022208) : ∃ (r n : Nat), FloatKind.f64.format.sqrt (FloatKind.f64.nearest (s : Int)) = some r ∧ (FloatKind.f64.decode r).toInt .zero = some (n : Int) ∧ n ≤ 16777216 := by
  have e : FloatKind.f64.nearest (s : Int) = double.nearest false s 0 := by
    unfold FloatKind.nearest FloatKind.encode FloatKind.format Format.write
    have : decide ((s : Int) < 0) = false := by simp
    simp only [this, Int.natAbs_natCast]
  rw [e]
  show ∃ r n, double.sqrt _ = some r ∧ (double.read r).toInt .zero = some _ ∧ _
  unfold Format.sqrt
  by_cases h0 : s = 0
  · subst h0
    have e0 : double.nearest false 0 0 = 0 := by simp [Format.nearest, Format.word]
    rw [e0, read_lo (by decide)]
    have er : (Datum.number false 0 (-1074)).root (double.fractionBits + 2) = some (.number false 0 (-1074)) := rfl
    rw [er]
    refine ⟨_, 0, rfl, ?_, by omega⟩
    have : double.write (.number false 0 (-1074)) = 0 := by simp [Format.write, Format.nearest, Format.word]
    rw [this, read_lo (by decide)]
    rfl
  · have hl : s.log2 ≤ 42 := by
      have := (log2_bd h0).1
      rcases Nat.lt_or_ge s.log2 43 with h | h
      · omega
      · have h5 : 2 ^ 43 ≤ 2 ^ s.log2 := Nat.pow_le_pow_right (by omega) h
        omega
    obtain ⟨kept, hk, he⟩ := nearest_bd (mag := s) (place := 0) (last := 0 + s.log2 - 52) h0 rfl (by omega) (by omega)
    rw [he]
    generalize hr : ((0 : Int) + (s.log2 : Int) - 52 + 1074).toNat * 4503599627370496 + kept = r
    have ha : ((0 : Int) + (s.log2 : Int) - 52 + 1074).toNat = s.log2 + 1022 := by omega
    rw [ha] at hr
    have hr1 : 1022 * 4503599627370496 ≤ r := by
      have := Nat.mul_le_mul_right 4503599627370496 (show 1022 ≤ s.log2 + 1022 by omega)
      omega
    have hr2 : r ≤ 1066 * 4503599627370496 := by
      have := Nat.mul_le_mul_right 4503599627370496 (show s.log2 + 1022 ≤ 1064 by omega)
      omega
    rw [read_hi (by omega) (by omega)]
    obtain ⟨mag, place, h1, h2, h3, h4⟩ := root_bd (kept := 4503599627370496 + r % 4503599627370496) (i := -1074 + (r / 4503599627370496 - 1 : Nat)) (by omega) (by omega) (by omega) (by omega)
    obtain ⟨n, hn, hb⟩ := back_bd h2 h3 h4
    have er : (Datum.number false (4503599627370496 + r % 4503599627370496) (-1074 + (r / 4503599627370496 - 1 : Nat))).root (double.fractionBits + 2) = some (.number false mag place) := h1
    rw [er]
    exact ⟨_, n, rfl, hn, hb⟩
end Go.Pv.Sq

/- Numbers made floats and back. -/
namespace Go.Pv
class TFloat (P : Program) (t : TypeId) : Prop where h : P.underlying t = some (.float .f64)
section
variable {P : Program} {K : X → St → Prop} {env : Env} {hp : Hp} {nx n id : Nat} {s : Tmp} {x : Operand} {t t' : TypeId}
theorem go_conv_if {k0 k : IntKind} {a : Int} [h0 : TInt P t k0] [h1 : TFloat P t'] (h : evalD env x = .int k a) (hd : okDst n (some s) = true) (hk : K .normal ⟨(s, .float .f64 (FloatKind.f64.nearest a)) :: env, hp, nx, n⟩) : evOp P (.convert t t' x) id (some s) ⟨env, hp, nx, n⟩ K := by
  rw [evOp_convert]
  refine ⟨.float .f64 (FloatKind.f64.nearest a), ?_, hd, hk⟩
  rw [h]
  simp only [convD, h1.h, h0.h, Option.isSome_some, if_true]
theorem go_conv_fi {b : Nat} {a : Int} [h0 : TFloat P t] [h1 : TInt P t' .i64] (h : evalD env x = .float .f64 b) (ha : (FloatKind.f64.decode b).toInt .zero = some a) (hr : -9223372036854775808 ≤ a ∧ a ≤ 9223372036854775807) (hd : okDst n (some s) = true) (hk : K .normal ⟨(s, .int .i64 a) :: env, hp, nx, n⟩) : evOp P (.convert t t' x) id (some s) ⟨env, hp, nx, n⟩ K := by
  rw [evOp_convert]
  refine ⟨.int .i64 a, ?_, hd, hk⟩
  rw [h]
  simp only [convD, h1.h, h0.h, Option.isSome_some, ha]
  rw [if_pos (show IntKind.min .i64 ≤ a ∧ a ≤ IntKind.max .i64 from hr)]
/-- A call whose result is a float. -/
theorem go_fn_float {args : List Operand} {ts : Array TypeId} {g : FuncId} {args' : List D} {k : FloatKind} {q : Nat} (hp' : purL (lkH hp) 64 (args.map (evalD env)) = some args') (hc : Contract P g args' (.ret (.float k q))) (hd : okDst n (some s) = true)
    (h : K .normal ⟨(s, .float k q) :: env, hp, nx, n⟩) : evOp P (.call { callee := .value (.func g), args := args.toArray, argTypes := ts }) id (some s) ⟨env, hp, nx, n⟩ K :=
  go_call_fn hp' hc (Bool.or_true _) (Nat.le_of_ble_eq_true rfl) hd h
end
end Go.Pv

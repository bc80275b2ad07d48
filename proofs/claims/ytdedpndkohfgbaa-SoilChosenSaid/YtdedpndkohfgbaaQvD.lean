import Derived.Test.YtdedpndkohfgbaaQvC
/- Part of the proofs over Ytdedpndkohfgbaa: PwJ, PwK, PwL, PwM, PwN, PwO, PwP, PwQ, PwR, PwS, PwT, PwU. -/
set_option linter.unusedVariables false
set_option linter.unusedSimpArgs false
set_option linter.unnecessarySimpa false
/- Calls with several results; division. -/
namespace Go.Pv

/-- Results that lead to no memory. -/
def plainE : D → Bool
  | .agg cs => cs.all scal1
  | d => scal1 d
def plainR : D → Bool
  | .tup ds => ds.all plainE
  | d => plainE d

theorem plain_adL : ∀ {cs : List D} {n : Nat}, cs.all scal1 = true → adL n cs = (cs, [])
  | [], _, _ => rfl
  | c :: cs, n, h => by
    simp only [List.all_cons, Bool.and_eq_true] at h
    have hc : adC n c = (c, []) := by cases c <;> first | rfl | (exact absurd h.1 (by simp [scal1]))
    simp only [adL, hc, plain_adL h.2, List.nil_append]

theorem plain_adE {d : D} {n : Nat} (h : plainE d = true) : adE n d = (d, []) := by
  cases d with
  | agg cs => simp only [adE, plain_adL (cs := cs) h]
  | _ => first | rfl | (exact absurd h (by simp [plainE, scal1]))

theorem plain_adT : ∀ {ds : List D} {n : Nat}, ds.all plainE = true → adT n ds = (ds, [])
  | [], _, _ => rfl
  | d :: ds, n, h => by
    simp only [List.all_cons, Bool.and_eq_true] at h
    simp only [adT, plain_adE h.1, plain_adT h.2, List.nil_append]

theorem plain_reflC {d : D} (h : scal1 d = true) : reflC d = true := by
  cases d <;> first | (cases h; done) | rfl
theorem plain_reflE {d : D} (h : plainE d = true) : reflE d = true := by
  cases d with
  | agg cs =>
    simp only [plainE, List.all_eq_true] at h
    simp only [reflE, List.all_eq_true]
    exact fun c hc => plain_reflC (h c hc)
  | _ => first | rfl | (exact absurd h (by simp [plainE, scal1]))

theorem plain_cases {d : D} (h : plainR d = true) : (∃ ds, d = .tup ds ∧ ds.all plainE = true) ∨ (plainE d = true ∧ (∀ n, adopt n d = adE n d) ∧ refless d = reflE d) := by
  cases d <;> first | exact .inl ⟨_, rfl, h⟩ | exact .inr ⟨h, fun _ => rfl, rfl⟩

theorem plain_adopt {d : D} {n : Nat} (h : plainR d = true) : adopt n d = (d, []) := by
  rcases plain_cases h with ⟨ds, rfl, h⟩ | ⟨h, h2, _⟩
  · simp only [adopt, plain_adT (ds := ds) h]
  · rw [h2]; exact plain_adE h

theorem plain_refless {d : D} (h : plainR d = true) : refless d = true := by
  rcases plain_cases h with ⟨ds, rfl, h1⟩ | ⟨h, _, h2⟩
  · rw [List.all_eq_true] at h1
    simp only [refless, List.all_eq_true]
    exact fun c hc => plain_reflE (h1 c hc)
  · rw [h2]; exact plain_reflE h

class TEq (P : Program) (t : TypeId) (ks : outParam (List Kd)) : Prop where h : eqOK P t = some ks
class TArr (P : Program) (t : TypeId) (len : outParam Nat) (k : outParam Nat) : Prop where h : ∃ e, P.underlying t = some (.array len e) ∧ P.cellsOf e = k ∧ 0 < k

section
variable {P : Program} {K : X → St → Prop} {env : Env} {hp : Hp} {nx n id : Nat} {s : Tmp} {x y f : Operand} {t t' : TypeId}

theorem go_fn_plain {args : List Operand} {ts : Array TypeId} {g : FuncId} {args' : List D} {r : D} (hp' : purL (lkH hp) 64 (args.map (evalD env)) = some args') (hc : Contract P g args' (.ret r)) (hr : plainR r = true) (hw : widR r ≤ 32) (hd : okDst n (some s) = true)
    (h : K .normal ⟨(s, r) :: env, hp, nx, n⟩) : evOp P (.call { callee := .value (.func g), args := args.toArray, argTypes := ts }) id (some s) ⟨env, hp, nx, n⟩ K :=
  go_call_fn hp' hc (by rw [plain_refless hr, Bool.or_true]) hw hd (by rw [plain_adopt hr]; exact h)

theorem tdiv_bound {a b : Int} (h : 0 ≤ a) (hb : 0 < b) : a.tdiv b = a / b ∧ 0 ≤ a / b ∧ a / b ≤ a := by
  refine ⟨Int.tdiv_eq_ediv_of_nonneg h, Int.ediv_nonneg h (by omega), ?_⟩
  exact Int.ediv_le_self b h

theorem go_quo_pos {a b : Int} (h1 : evalD env x = .int .i64 a) (h2 : evalD env y = .int .i64 b) (hd : okDst n (some s) = true) (hr : 0 ≤ a ∧ 0 < b ∧ a ≤ 9223372036854775807) (hk : K .normal ⟨(s, (.int .i64 (a / b))) :: env, hp, nx, n⟩) :
    evOp P (.binOp .quo t x y t') id (some s) ⟨env, hp, nx, n⟩ K := by
  obtain ⟨e1, e2, e3⟩ := tdiv_bound hr.1 hr.2.1
  exact go_quo h1 h2 hd (by omega) (by rw [e1]; omega) (by rw [e1]; exact hk)
theorem go_rem_pos {a b : Int} (h1 : evalD env x = .int .i64 a) (h2 : evalD env y = .int .i64 b) (hd : okDst n (some s) = true) (hr : 0 ≤ a ∧ 0 < b) (hk : K .normal ⟨(s, (.int .i64 (a % b))) :: env, hp, nx, n⟩) :
    evOp P (.binOp .rem t x y t') id (some s) ⟨env, hp, nx, n⟩ K := go_rem h1 h2 hd (by omega) (by rw [Int.tmod_eq_emod_of_nonneg hr.1]; exact hk)

theorem tdiv_abs {a b : Int} (hb : b ≠ 0) (h : -9223372036854775807 ≤ a ∧ a ≤ 9223372036854775807) : -9223372036854775808 ≤ a.tdiv b ∧ a.tdiv b ≤ 9223372036854775807 := by
  have h1 : (a.tdiv b).natAbs ≤ a.natAbs := by rw [Int.natAbs_tdiv]; exact Nat.div_le_self _ _
  omega

theorem go_quo_any {a b : Int} (h1 : evalD env x = .int .i64 a) (h2 : evalD env y = .int .i64 b) (hd : okDst n (some s) = true) (hb : b ≠ 0) (hr : -9223372036854775807 ≤ a ∧ a ≤ 9223372036854775807) (hk : K .normal ⟨(s, (.int .i64 (a.tdiv b))) :: env, hp, nx, n⟩) :
    evOp P (.binOp .quo t x y t') id (some s) ⟨env, hp, nx, n⟩ K := go_quo h1 h2 hd hb (tdiv_abs hb hr) hk

theorem go_bs0 {e k : Nat} [hs : TSlice P t e k] (hd : okDst n (some s) = true) (hk : K .normal ⟨(s, .os id 0 0) :: env, (id, ⟨0, true, []⟩) :: hp, nx, n⟩) : evOp P (.buildSlice t 0 #[]) id (some s) ⟨env, hp, nx, n⟩ K := by
  have h1 : op1 P (evalD env) (.buildSlice t 0 #[]) = some (false, ⟨0, true, []⟩) := by
    simp only [op1, hs.u, if_true]
    rw [if_pos ⟨rfl, by rw [hs.c]; exact hs.p⟩]
  unfold evOp
  simp only [op0, h1]
  exact ⟨hd, hk⟩

theorem go_bs1 {e k : Nat} {z v : D} {cs : List D} {fl : Bool} [hs : TSlice P t e k] [hz : TZero P e z] (h : evalD env x = v) (hkn : known v = true) (hcs : cellsD v = cs) (hzl : (cellsD z).length = k) (hl : cs.length = k) (hfl : cs.all lite = fl) (hsm : k ≤ 16777216) (hd : okDst n (some s) = true)
    (hk : K .normal ⟨(s, .os id 0 1) :: env, (id, ⟨k, fl, [cs]⟩) :: hp, nx, n⟩) : evOp P (.buildSlice t 1 #[(0, x)]) id (some s) ⟨env, hp, nx, n⟩ K := by
  subst h hcs hfl
  have h1 : op1 P (evalD env) (.buildSlice t 1 #[(0, x)]) = some (false, ⟨k, (cellsD (evalD env x)).all lite, [cellsD (evalD env x)]⟩) := by
    simp only [op1, hs.u, hz.h, Option.bind_some]
    rw [if_neg (by decide), if_pos ⟨hz.k, by rw [hzl, hs.c], by rw [hs.c]; exact hs.p, by rw [hs.c]; omega⟩]
    simp only [List.map_cons, List.map_nil, fillRows, List.replicate, List.length_cons, List.length_nil]
    rw [if_pos ⟨hkn, by rw [hl, hs.c], by omega⟩]
    simp [hs.c, flatRows]
  unfold evOp
  simp only [op0, h1]
  exact ⟨hd, hk⟩

theorem go_bs2 {e k : Nat} {z v v' : D} {cs cs' : List D} {fl : Bool} [hs : TSlice P t e k] [hz : TZero P e z] (h : evalD env x = v) (h' : evalD env y = v') (hkn : known v = true) (hkn' : known v' = true) (hcs : cellsD v = cs) (hcs' : cellsD v' = cs') (hzl : (cellsD z).length = k) (hl : cs.length = k) (hl' : cs'.length = k)
    (hfl : (cs.all lite && cs'.all lite) = fl) (hsm : k ≤ 1000000) (hd : okDst n (some s) = true)
    (hk : K .normal ⟨(s, .os id 0 2) :: env, (id, ⟨k, fl, [cs, cs']⟩) :: hp, nx, n⟩) : evOp P (.buildSlice t 2 #[(0, x), (1, y)]) id (some s) ⟨env, hp, nx, n⟩ K := by
  subst h hcs h' hcs' hfl
  have h1 : op1 P (evalD env) (.buildSlice t 2 #[(0, x), (1, y)]) = some (false, ⟨k, (cellsD (evalD env x)).all lite && (cellsD (evalD env y)).all lite, [cellsD (evalD env x), cellsD (evalD env y)]⟩) := by
    simp only [op1, hs.u, hz.h, Option.bind_some]
    rw [if_neg (by decide), if_pos ⟨hz.k, by rw [hzl, hs.c], by rw [hs.c]; exact hs.p, by rw [hs.c]; omega⟩]
    simp only [List.map_cons, List.map_nil, fillRows, List.replicate, List.length_cons, List.length_nil, List.length_set]
    rw [if_pos ⟨hkn, by rw [hl, hs.c], by omega⟩, if_pos ⟨hkn', by rw [hl', hs.c], by omega⟩]
    simp [hs.c, flatRows]
  unfold evOp
  simp only [op0, h1]
  exact ⟨hd, hk⟩

theorem go_bs1_int {e : Nat} {z : D} {k : IntKind} {a : Int} [hs : TSlice P t e 1] [hz : TZero P e z] (h : evalD env x = .int k a) (hzl : (cellsD z).length = 1) (hd : okDst n (some s) = true)
    (hk : K .normal ⟨(s, .os id 0 1) :: env, (id, ⟨1, true, [[.int k a]]⟩) :: hp, nx, n⟩) : evOp P (.buildSlice t 1 #[(0, x)]) id (some s) ⟨env, hp, nx, n⟩ K := go_bs1 h rfl rfl hzl rfl rfl (by omega) hd hk
theorem go_bs1_agg {e k : Nat} {z : D} {cs : List D} {fl : Bool} [hs : TSlice P t e k] [hz : TZero P e z] (h : evalD env x = .agg cs) (hzl : (cellsD z).length = k) (hl : cs.length = k) (hfl : cs.all lite = fl) (hsm : Nat.ble k 16777216 = true) (hd : okDst n (some s) = true)
    (hk : K .normal ⟨(s, .os id 0 1) :: env, (id, ⟨k, fl, [cs]⟩) :: hp, nx, n⟩) : evOp P (.buildSlice t 1 #[(0, x)]) id (some s) ⟨env, hp, nx, n⟩ K := go_bs1 h rfl rfl hzl hl hfl (Nat.le_of_ble_eq_true hsm) hd hk
theorem go_bs2_int {e : Nat} {z : D} {k k' : IntKind} {a a' : Int} [hs : TSlice P t e 1] [hz : TZero P e z] (h : evalD env x = .int k a) (h' : evalD env y = .int k' a') (hzl : (cellsD z).length = 1) (hd : okDst n (some s) = true)
    (hk : K .normal ⟨(s, .os id 0 2) :: env, (id, ⟨1, true, [[.int k a], [.int k' a']]⟩) :: hp, nx, n⟩) : evOp P (.buildSlice t 2 #[(0, x), (1, y)]) id (some s) ⟨env, hp, nx, n⟩ K := go_bs2 h h' rfl rfl rfl rfl hzl rfl rfl rfl (by omega) hd hk
theorem go_bs2_agg {e k : Nat} {z : D} {cs cs' : List D} {fl : Bool} [hs : TSlice P t e k] [hz : TZero P e z] (h : evalD env x = .agg cs) (h' : evalD env y = .agg cs') (hzl : (cellsD z).length = k) (hl : cs.length = k) (hl' : cs'.length = k) (hfl : (cs.all lite && cs'.all lite) = fl) (hsm : Nat.ble k 1000000 = true) (hd : okDst n (some s) = true)
    (hk : K .normal ⟨(s, .os id 0 2) :: env, (id, ⟨k, fl, [cs, cs']⟩) :: hp, nx, n⟩) : evOp P (.buildSlice t 2 #[(0, x), (1, y)]) id (some s) ⟨env, hp, nx, n⟩ K := go_bs2 h h' rfl rfl rfl rfl hzl hl hl' hfl (Nat.le_of_ble_eq_true hsm) hd hk

theorem pur_scal {h : Nat → Option Blk} {m : Nat} {d : D} (hs : scal1 d = true) : pur h (m + 1) d = some d := by
  cases d <;> first | (cases hs; done) | rfl
theorem purL_scal {h : Nat → Option Blk} : ∀ {cs : List D} {m : Nat}, cs.length < m → cs.all scal1 = true → purL h m cs = some cs
  | [], m + 1, _, _ => rfl
  | c :: cs, m + 2, hm, hs => by
    simp only [List.all_cons, Bool.and_eq_true] at hs
    simp only [purL, pur_scal (m := m) hs.1, purL_scal (cs := cs) (m := m + 1) (by simp at hm; omega) hs.2]
    rfl
theorem pur_plain {h : Nat → Option Blk} {d : D} (hs : plainE d = true) (hl : Nat.ble (widE d) 60 = true) : pur h 64 d = some d := by
  cases d with
  | agg cs =>
    have : cs.length ≤ 60 := Nat.le_of_ble_eq_true hl
    show (purL h 63 cs).map D.agg = _
    rw [purL_scal (by omega) hs]
    rfl
  | _ => exact pur_scal (m := 63) hs

theorem fin_tup2 {r1 r2 : ResultVar} {d1 d2 : D} (h1 : resD P ⟨env, hp, nx, n⟩ r1 = some d1) (h2 : resD P ⟨env, hp, nx, n⟩ r2 = some d2) (p1 : (plainE d1 && Nat.ble (widE d1) 60) = true) (p2 : (plainE d2 && Nat.ble (widE d2) 60) = true) : Fin P [r1, r2] ⟨env, hp, nx, n⟩ (.tup [d1, d2]) := by
  simp only [Bool.and_eq_true] at p1 p2
  exact fin2 (ds := [d1, d2]) (by simp [h1, h2]) ⟨pur_plain p1.1 p1.2, pur_plain p2.1 p2.2, trivial⟩ (by simp)
theorem fin_tup3 {r1 r2 r3 : ResultVar} {d1 d2 d3 : D} (h1 : resD P ⟨env, hp, nx, n⟩ r1 = some d1) (h2 : resD P ⟨env, hp, nx, n⟩ r2 = some d2) (h3 : resD P ⟨env, hp, nx, n⟩ r3 = some d3) (p1 : (plainE d1 && Nat.ble (widE d1) 60) = true) (p2 : (plainE d2 && Nat.ble (widE d2) 60) = true) (p3 : (plainE d3 && Nat.ble (widE d3) 60) = true) :
    Fin P [r1, r2, r3] ⟨env, hp, nx, n⟩ (.tup [d1, d2, d3]) := by
  simp only [Bool.and_eq_true] at p1 p2 p3
  exact fin2 (ds := [d1, d2, d3]) (by simp [h1, h2, h3]) ⟨pur_plain p1.1 p1.2, pur_plain p2.1 p2.2, pur_plain p3.1 p3.2, trivial⟩ (by simp)

theorem end_t2 {r1 r2 : ResultVar} {d1 d2 r : D} (h1 : resD P ⟨env, hp, nx, n⟩ r1 = some d1) (h2 : resD P ⟨env, hp, nx, n⟩ r2 = some d2) (p1 : (plainE d1 && Nat.ble (widE d1) 60) = true) (p2 : (plainE d2 && Nat.ble (widE d2) 60) = true) (e : D.tup [d1, d2] = r) : finK P [r1, r2] (.ret r) .ret ⟨env, hp, nx, n⟩ := e ▸ finK_ret (fin_tup2 h1 h2 p1 p2)
theorem end_t2' {r1 r2 : ResultVar} {d1 d2 r : D} (h1 : resD P ⟨env, hp, nx, n⟩ r1 = some d1) (h2 : resD P ⟨env, hp, nx, n⟩ r2 = some d2) (p1 : (plainE d1 && Nat.ble (widE d1) 60) = true) (p2 : (plainE d2 && Nat.ble (widE d2) 60) = true) (e : D.tup [d1, d2] = r) : finK P [r1, r2] (.ret r) .normal ⟨env, hp, nx, n⟩ := e ▸ finK_normal (fin_tup2 h1 h2 p1 p2)
theorem end_t3 {r1 r2 r3 : ResultVar} {d1 d2 d3 r : D} (h1 : resD P ⟨env, hp, nx, n⟩ r1 = some d1) (h2 : resD P ⟨env, hp, nx, n⟩ r2 = some d2) (h3 : resD P ⟨env, hp, nx, n⟩ r3 = some d3) (p1 : (plainE d1 && Nat.ble (widE d1) 60) = true) (p2 : (plainE d2 && Nat.ble (widE d2) 60) = true) (p3 : (plainE d3 && Nat.ble (widE d3) 60) = true)
    (e : D.tup [d1, d2, d3] = r) : finK P [r1, r2, r3] (.ret r) .ret ⟨env, hp, nx, n⟩ := e ▸ finK_ret (fin_tup3 h1 h2 h3 p1 p2 p3)
theorem end_t3' {r1 r2 r3 : ResultVar} {d1 d2 d3 r : D} (h1 : resD P ⟨env, hp, nx, n⟩ r1 = some d1) (h2 : resD P ⟨env, hp, nx, n⟩ r2 = some d2) (h3 : resD P ⟨env, hp, nx, n⟩ r3 = some d3) (p1 : (plainE d1 && Nat.ble (widE d1) 60) = true) (p2 : (plainE d2 && Nat.ble (widE d2) 60) = true) (p3 : (plainE d3 && Nat.ble (widE d3) 60) = true)
    (e : D.tup [d1, d2, d3] = r) : finK P [r1, r2, r3] (.ret r) .normal ⟨env, hp, nx, n⟩ := e ▸ finK_normal (fin_tup3 h1 h2 h3 p1 p2 p3)
/-- A struct of single values. -/
theorem end_agg {rv : ResultVar} {cs : List D} {r : D} (h : resD P ⟨env, hp, nx, n⟩ rv = some (.agg cs)) (hs : (cs.all scal1 && Nat.ble cs.length 60) = true) (e : D.agg cs = r) : finK P [rv] (.ret r) .ret ⟨env, hp, nx, n⟩ := by
  simp only [Bool.and_eq_true] at hs
  exact e ▸ finK_ret (fin1 h (pur_plain (d := .agg cs) hs.1 hs.2) rfl)
theorem end_agg' {rv : ResultVar} {cs : List D} {r : D} (h : resD P ⟨env, hp, nx, n⟩ rv = some (.agg cs)) (hs : (cs.all scal1 && Nat.ble cs.length 60) = true) (e : D.agg cs = r) : finK P [rv] (.ret r) .normal ⟨env, hp, nx, n⟩ := by
  simp only [Bool.and_eq_true] at hs
  exact e ▸ finK_normal (fin1 h (pur_plain (d := .agg cs) hs.1 hs.2) rfl)

/-- A whole variable is read. -/
theorem go_ld_agg {b k : Nat} {fl : Bool} {row : List D} [hs : TSh P t (.many k)] (h : evalD env x = .op b 0 0) (hb : lkH hp b = some ⟨k, fl, [row]⟩) (hl : row.length = k) (hd : okDst n (some s) = true) (hk : K .normal ⟨(s, .agg row) :: env, hp, nx, n⟩) : evOp P (.load t x) id (some s) ⟨env, hp, nx, n⟩ K := by
  refine go_load_own (sh' := .many k) h hb ?_ hd hk
  simp only [fromCells, getRow, List.getD_cons_zero, List.drop_zero]
  rw [if_pos (by omega), ← hl, List.take_length]
theorem go_ld_one {b : Nat} {fl : Bool} {c : D} [hs : TSh P t .one] (h : evalD env x = .op b 0 0) (hb : lkH hp b = some ⟨1, fl, [[c]]⟩) (hd : okDst n (some s) = true) (hk : K .normal ⟨(s, c) :: env, hp, nx, n⟩) : evOp P (.load t x) id (some s) ⟨env, hp, nx, n⟩ K :=
  go_load_own (sh' := .one) h hb rfl hd hk

/-- Structs built from single values, or from one struct. -/
theorem go_bd2_int {zs : List D} {k k' : IntKind} {a b : Int} [hl : TLay P t zs [(0, 1), (1, 1)]] (h : evalD env x = .int k a) (h' : evalD env y = .int k' b) (hz : zs.length = 2) (hd : okDst n (some s) = true) (hk : K .normal ⟨(s, .agg [.int k a, .int k' b]) :: env, hp, nx, n⟩) :
    evOp P (.build t #[(0, x), (1, y)]) id (some s) ⟨env, hp, nx, n⟩ K := by
  obtain ⟨z0, z1, rfl⟩ : ∃ z0 z1, zs = [z0, z1] := by
    match zs, hz with
    | [z0, z1], _ => exact ⟨z0, z1, rfl⟩
  refine go_build (parts := [(0, x), (1, y)]) ?_ hd hk
  simp only [List.map_cons, List.map_nil, h, h']
  rfl
theorem go_bd1_agg {zs cs : List D} {k : Nat} [hl : TLay P t zs [(0, k)]] (h : evalD env x = .agg cs) (hz : zs.length = k) (hc : cs.length = k) (hd : okDst n (some s) = true) (hk : K .normal ⟨(s, .agg cs) :: env, hp, nx, n⟩) :
    evOp P (.build t #[(0, x)]) id (some s) ⟨env, hp, nx, n⟩ K := by
  subst hc
  have hs : spliceL zs 0 cs = cs := by simp [spliceL, hz]
  refine go_build (parts := [(0, x)]) ?_ hd hk
  simp only [List.map_cons, List.map_nil, h]
  show (if known (.agg cs) = true ∧ cs.length = cs.length ∧ 0 + cs.length ≤ zs.length then fillD _ (spliceL zs 0 cs) [] else none) = some cs
  rw [if_pos ⟨rfl, rfl, by omega⟩, hs]
  rfl

theorem go_index_nat {α : Type} {e : TypeId} {k : Nat} {l : List α} {f : α → List D} {ik : IntKind} {j : Int} {i : Nat} [hs : TSlice P t e k] (h : evalD env x = .sl (l.map f)) (h2 : evalD env y = .int ik j) (hj : j = (i : Int)) (hk : ∀ a, (f a).length = k) (hd : okDst n (some s) = true)
    (hi : i < l.length) (hc : ∀ (hlt : i < l.length), K .normal ⟨(s, (.ptr (f l[i]))) :: env, hp, nx, n⟩) : evOp P (.indexAddr t x y) id (some s) ⟨env, hp, nx, n⟩ K := by
  subst hj
  exact go_index h h2 hk hd (by omega) fun hlt => by simpa only [Int.toNat_natCast] using hc hi

theorem go_ld_ptr {cs : List D} {k : Nat} [hs : TSh P t (.many k)] (h : evalD env x = .ptr cs) (hl : cs.length = k) (hd : okDst n (some s) = true) (hk : K .normal ⟨(s, .agg cs) :: env, hp, nx, n⟩) : evOp P (.load t x) id (some s) ⟨env, hp, nx, n⟩ K := by
  refine go_load (sh' := .many k) h ?_ hd hk
  simp only [fromCells]
  rw [if_pos (by omega), ← hl, List.take_length]

/-- Rows of single values. -/
def ScalF {α : Type} (f : α → List D) (k : Nat) : Prop := ∀ a, (f a).length = k ∧ (f a).all scal1 = true

theorem scal1_lite {d : D} (h : scal1 d = true) : lite d = true := by cases d <;> first | (cases h; done) | rfl
theorem scal1_cell1 {d : D} (h : scal1 d = true) (hu : known d = true) (hk : d ≠ .skip) : cell1 d = true := by cases d <;> first | (cases h; done) | (cases hu; done) | rfl | exact (hk rfl).elim
theorem scal1_ment {d : D} {b : Nat} (h : scal1 d = true) : ment b d = false := by cases d <;> first | (cases h; done) | rfl
theorem flat_map {α : Type} {f : α → List D} {k : Nat} (hf : ScalF f k) (l : List α) : flatRows (l.map f) = true := by
  simp only [flatRows, List.all_map, List.all_eq_true, Function.comp]
  exact fun a _ c hc => scal1_lite (List.all_eq_true.1 (hf a).2 c hc)
theorem scalR_map {α : Type} {f : α → List D} {k : Nat} (hf : ScalF f k) (l : List α) : scalR (l.map f) = true := by
  simp only [scalR, List.all_map, List.all_eq_true, Function.comp]
  exact fun a _ c hc => List.all_eq_true.1 (hf a).2 c hc

/-- A list of one's own, one element longer. -/
theorem go_app_map {α : Type} {f : α → List D} {e k b b2 len : Nat} {l : List α} {a : α} {fl2 : Bool} [hs : TSlice P t e k] (hf : ScalF f k) (h1 : evalD env x = .os b 0 len) (h2 : evalD env y = .os b2 0 1) (hb : lkH hp b = some ⟨k, true, l.map f⟩) (hlen : l.length = len) (hb2 : lkH hp b2 = some ⟨k, fl2, [f a]⟩)
    (hc1 : ((f a).all cell1) = true) (hz : zeroOK P e = true) (hby : Nat.ble (P.bytesOf e) 4096 = true) (hn : len ≤ 1000000000) (hd : okDst n (some s) = true)
    (hk : K .normal ⟨(s, .os b 0 (len + 1)) :: purgeE b env, (b, ⟨k, true, (l ++ [a]).map f⟩) :: purgeH b hp, nx, n⟩) : evOp P (.call { callee := .builtin .append, args := #[x, y], argTypes := #[t, t] }) id (some s) ⟨env, hp, nx, n⟩ K := by
  have hby' : P.bytesOf e ≤ 4096 := Nat.le_of_ble_eq_true hby
  have hap : appendD P (lkH hp) t (evalD env x) (evalD env y) = some (some b, ⟨k, true, (l ++ [a]).map f⟩) := by
    have hx : contentD (lkH hp) (.os b2 0 1) = some [f a] := by simp [contentD, hb2]
    have ho : contentD (lkH hp) (.os b 0 len) = some (l.map f) := by
      simp only [contentD, hb, Option.bind_some]
      rw [if_pos (by simp [hlen])]
      rw [List.drop_zero, List.take_of_length_le (by simp [hlen])]
    unfold appendD
    rw [hs.u, h1, h2]
    simp only [hx, ho, Option.bind_some]
    have hmul : (len + 1) * P.bytesOf e ≤ 140737488355328 := by
      have := Nat.mul_le_mul (show len + 1 ≤ 1000000001 by omega) hby'
      omega
    rw [if_pos]
    · rw [hb]
      simp only [Option.bind_some]
      rw [if_pos]
      · have hft : flatRows [f a] = true := by
          have := flat_map hf [a]
          simpa using this
        simp [hs.c, hft]
      · refine ⟨.inl hs.c.symm, fun r hr c hc => ?_⟩
        have : ∃ a', r = f a' := by
          simp only [List.mem_append, List.mem_map, List.mem_singleton] at hr
          rcases hr with ⟨a', _, rfl⟩ | rfl
          · exact ⟨a', rfl⟩
          · exact ⟨a, rfl⟩
        obtain ⟨a', rfl⟩ := this
        exact scal1_ment (List.all_eq_true.1 (hf a').2 c hc)
    · refine ⟨by rw [hs.c]; exact hs.p, fun r hr => ?_, fun r hr c hc => ?_, by simp [hlen]; exact hmul, by simp [hlen]; omega, hz, by simp [kOK, hb2, hs.c]⟩
      · simp only [List.mem_singleton] at hr
        rw [hr, (hf a).1, hs.c]
      · simp only [List.mem_singleton] at hr
        subst hr
        exact List.all_eq_true.1 hc1 c hc
  refine go_append_on hap hd ?_
  have e : (⟨k, true, (l ++ [a]).map f⟩ : Blk).rows.length = len + 1 := by simp [hlen]
  rw [e]
  exact hk

/-- A call that returns a new list, or one and a single value. -/
theorem go_fn_fr {α : Type} {f : α → List D} {k : Nat} {l : List α} {args : List Operand} {ts : Array TypeId} {g : FuncId} {args' : List D} (hp' : purL (lkH hp) 64 (args.map (evalD env)) = some args') (hc : Contract P g args' (.ret (.fr k (l.map f)))) (hf : ScalF f k) (hd : okDst n (some s) = true)
    (h : K .normal ⟨(s, .os id 0 l.length) :: env, (id, ⟨k, true, l.map f⟩) :: hp, nx, n⟩) : evOp P (.call { callee := .value (.func g), args := args.toArray, argTypes := ts }) id (some s) ⟨env, hp, nx, n⟩ K := by
  refine go_call_fn hp' hc ?_ (by simp [widR, widE]) hd ?_
  · have : refless (.fr k (l.map f)) = true := scalR_map hf l
    rw [this, Bool.or_true]
  · have e : adopt id (.fr k (l.map f)) = (.os id 0 l.length, [(id, ⟨k, true, l.map f⟩)]) := by
      simp [adopt, adE, adC, flat_map hf]
    rw [e]
    exact h
theorem go_fn_fr2 {α : Type} {f : α → List D} {k : Nat} {l : List α} {d2 : D} {args : List Operand} {ts : Array TypeId} {g : FuncId} {args' : List D} (hp' : purL (lkH hp) 64 (args.map (evalD env)) = some args') (hc : Contract P g args' (.ret (.tup [.fr k (l.map f), d2]))) (hf : ScalF f k) (h2 : scal1 d2 = true) (hd : okDst n (some s) = true)
    (h : K .normal ⟨(s, .tup [.os id 0 l.length, d2]) :: env, (id, ⟨k, true, l.map f⟩) :: hp, nx, n⟩) : evOp P (.call { callee := .value (.func g), args := args.toArray, argTypes := ts }) id (some s) ⟨env, hp, nx, n⟩ K := by
  have hw : widE d2 = 1 := by cases d2 <;> first | (cases h2; done) | rfl
  have hr2 : reflE d2 = true := plain_reflE (by cases d2 <;> first | (cases h2; done) | rfl)
  have ha2 : ∀ m, adE m d2 = (d2, []) := fun m => plain_adE (by cases d2 <;> first | (cases h2; done) | rfl)
  refine go_call_fn hp' hc ?_ (by simp [widR, hw]; simp [widE]) hd ?_
  · have : refless (.tup [.fr k (l.map f), d2]) = true := by
      simp only [refless, List.all_cons, List.all_nil, Bool.and_true, hr2]
      exact scalR_map hf l
    rw [this, Bool.or_true]
  · have e : adopt id (.tup [.fr k (l.map f), d2]) = (.tup [.os id 0 l.length, d2], [(id, ⟨k, true, l.map f⟩)]) := by
      simp only [adopt, adT, ha2]
      simp [adE, adC, flat_map hf]
    rw [e]
    exact h

/-- A new list is returned; with a single value. -/
theorem end_fr {α : Type} {f : α → List D} {rv : ResultVar} {b k : Nat} {l l' : List α} (h : resD P ⟨env, hp, nx, n⟩ rv = some (.os b 0 l.length)) (hb : lkH hp b = some ⟨k, true, l.map f⟩) (e : l = l') : finK P [rv] (.ret (.fr k (l'.map f))) .ret ⟨env, hp, nx, n⟩ := by
  subst e
  exact finK_ret (fin1_fr (rows' := l.map f) (by simpa using h) hb (by simp))
theorem fin_fr2 {r1 r2 : ResultVar} {b k len : Nat} {rows : List (List D)} {d2 : D} (h1 : resD P ⟨env, hp, nx, n⟩ r1 = some (.os b 0 len)) (hlen : rows.length = len) (hb : lkH hp b = some ⟨k, true, rows⟩) (h2 : resD P ⟨env, hp, nx, n⟩ r2 = some d2) (hs : scal1 d2 = true) : Fin P [r1, r2] ⟨env, hp, nx, n⟩ (.tup [.fr k rows, d2]) :=
  .inl ⟨[.blk b, .pure], [.os b 0 len, d2], [.fr k rows, d2], by simp [h1, h2], by simp [frsOf], ⟨⟨⟨k, true, rows⟩, rows, by rw [hlen], hb, rfl, by simp⟩, pur_scal (m := 63) hs, trivial⟩, rfl, fun h => by simp at h⟩
theorem fin_nil2 {r1 r2 : ResultVar} {k : Nat} {d2 : D} (h1 : resD P ⟨env, hp, nx, n⟩ r1 = some .nilsl) (h2 : resD P ⟨env, hp, nx, n⟩ r2 = some d2) (hs : scal1 d2 = true) : Fin P [r1, r2] ⟨env, hp, nx, n⟩ (.tup [.fr k [], d2]) :=
  .inl ⟨[.nil, .pure], [.nilsl, d2], [.fr k [], d2], by simp [h1, h2], by simp [frsOf], ⟨⟨rfl, k, rfl⟩, pur_scal (m := 63) hs, trivial⟩, rfl, fun h => by simp at h⟩

theorem go_min {k k' : IntKind} {a b : Int} {ts : Array TypeId} (h1 : evalD env x = .int k a) (h2 : evalD env y = .int k' b) (hd : okDst n (some s) = true) (hk : K .normal ⟨(s, .int k (min a b)) :: env, hp, nx, n⟩) : evOp P (.call { callee := .builtin .min, args := #[x, y], argTypes := ts }) id (some s) ⟨env, hp, nx, n⟩ K := by
  have h := evOp_min (P := P) (K := K) (env := env) (hp := hp) (nx := nx) (n := n) (id := id) (dst := some s) (x := x) (xs := [y]) (ts := ts)
  rw [show (#[x, y] : Array Operand) = (x :: [y]).toArray from rfl, h]
  refine ⟨.int k (min a b), ?_, hd, hk⟩
  simp only [List.map_cons, List.map_nil, foldD, h1, h2, min2D, Option.bind_some, Option.some.injEq, D.int.injEq, true_and]
  omega
theorem go_max {k k' : IntKind} {a b : Int} {ts : Array TypeId} (h1 : evalD env x = .int k a) (h2 : evalD env y = .int k' b) (hd : okDst n (some s) = true) (hk : K .normal ⟨(s, .int k (max a b)) :: env, hp, nx, n⟩) : evOp P (.call { callee := .builtin .max, args := #[x, y], argTypes := ts }) id (some s) ⟨env, hp, nx, n⟩ K := by
  have h := evOp_max (P := P) (K := K) (env := env) (hp := hp) (nx := nx) (n := n) (id := id) (dst := some s) (x := x) (xs := [y]) (ts := ts)
  rw [show (#[x, y] : Array Operand) = (x :: [y]).toArray from rfl, h]
  refine ⟨.int k (max a b), ?_, hd, hk⟩
  simp only [List.map_cons, List.map_nil, foldD, h1, h2, max2D, Option.bind_some, Option.some.injEq, D.int.injEq, true_and]
  omega

/-- A struct of three values. -/
theorem go_bd3 {zs : List D} {d1 d2 d3 : D} {z : Operand} [hl : TLay P t zs [(0, 1), (1, 1), (2, 1)]] (h1 : evalD env x = d1) (h2 : evalD env y = d2) (h3 : evalD env z = d3) (hz : zs.length = 3) (p : (scal1 d1 && scal1 d2 && scal1 d3 && known d1 && known d2 && known d3) = true) (hd : okDst n (some s) = true) (hk : K .normal ⟨(s, .agg [d1, d2, d3]) :: env, hp, nx, n⟩) :
    evOp P (.build t #[(0, x), (1, y), (2, z)]) id (some s) ⟨env, hp, nx, n⟩ K := by
  obtain ⟨z0, z1, z2, rfl⟩ : ∃ z0 z1 z2, zs = [z0, z1, z2] := by
    match zs, hz with
    | [z0, z1, z2], _ => exact ⟨z0, z1, z2, rfl⟩
  simp only [Bool.and_eq_true] at p
  obtain ⟨⟨⟨⟨⟨p1, p2⟩, p3⟩, p4⟩, p5⟩, p6⟩ := p
  have hc : ∀ d, scal1 d = true → cellsD d = [d] := fun d h => by cases d <;> first | (cases h; done) | rfl
  refine go_build (parts := [(0, x), (1, y), (2, z)]) ?_ hd hk
  simp only [List.map_cons, List.map_nil, h1, h2, h3]
  simp only [fillD, List.getElem?_cons_zero, List.getElem?_cons_succ, hc _ p1, hc _ p2, hc _ p3, p4, p5, p6]
  rfl

theorem go_bd3_sii {zs : List D} {a : ByteArray} {k k' : IntKind} {b c : Int} {z : Operand} [hl : TLay P t zs [(0, 1), (1, 1), (2, 1)]] (h1 : evalD env x = .str a) (h2 : evalD env y = .int k b) (h3 : evalD env z = .int k' c) (hz : zs.length = 3) (hd : okDst n (some s) = true) (hk : K .normal ⟨(s, .agg [.str a, .int k b, .int k' c]) :: env, hp, nx, n⟩) :
    evOp P (.build t #[(0, x), (1, y), (2, z)]) id (some s) ⟨env, hp, nx, n⟩ K := go_bd3 h1 h2 h3 hz rfl hd hk
theorem go_bd3_iii {zs : List D} {k k' k2 : IntKind} {a b c : Int} {z : Operand} [hl : TLay P t zs [(0, 1), (1, 1), (2, 1)]] (h1 : evalD env x = .int k a) (h2 : evalD env y = .int k' b) (h3 : evalD env z = .int k2 c) (hz : zs.length = 3) (hd : okDst n (some s) = true) (hk : K .normal ⟨(s, .agg [.int k a, .int k' b, .int k2 c]) :: env, hp, nx, n⟩) :
    evOp P (.build t #[(0, x), (1, y), (2, z)]) id (some s) ⟨env, hp, nx, n⟩ K := go_bd3 h1 h2 h3 hz rfl hd hk

/-- Structs compared. -/
theorem go_neq_agg {ks : List Kd} {a b : List D} {q : Bool} [he : TEq P t ks] (h1 : evalD env x = .agg a) (h2 : evalD env y = .agg b) (hq : cellsEq ks a b = some q) (hd : okDst n (some s) = true) (hk : K .normal ⟨(s, .bool !q) :: env, hp, nx, n⟩) : evOp P (.binOp .neq t x y t') id (some s) ⟨env, hp, nx, n⟩ K :=
  go_bin (d := .bool !q) (by rw [h1, h2]; simp [binD, he.h, hq]) hd hk
theorem go_eql_agg {ks : List Kd} {a b : List D} {q : Bool} [he : TEq P t ks] (h1 : evalD env x = .agg a) (h2 : evalD env y = .agg b) (hq : cellsEq ks a b = some q) (hd : okDst n (some s) = true) (hk : K .normal ⟨(s, .bool q) :: env, hp, nx, n⟩) : evOp P (.binOp .eql t x y t') id (some s) ⟨env, hp, nx, n⟩ K :=
  go_bin (d := .bool q) (by rw [h1, h2]; simp [binD, he.h, hq]) hd hk

/-- An element of an array of one's own. -/
theorem go_index_arr {len k : Nat} {b row off : Nat} {blk : Blk} {ik : IntKind} {i : Int} [ha : TArr P t len k] (h : evalD env x = .op b row off) (h2 : evalD env y = .int ik i) (hb : lkH hp b = some blk) (hd : okDst n (some s) = true) (hi : 0 ≤ i ∧ i < len)
    (hk : K .normal ⟨(s, .op b row (off + i.toNat * k)) :: env, hp, nx, n⟩) : evOp P (.indexAddr t x y) id (some s) ⟨env, hp, nx, n⟩ K := by
  rw [evOp_indexAddr]
  refine ⟨.op b row (off + i.toNat * k), ?_, hd, hk⟩
  obtain ⟨e, hu, hc, hp0⟩ := ha.h
  rw [h, h2]
  simp only [indexAddrD, hu, hb]
  rw [if_pos ⟨hi.1, hi.2, by omega⟩, hc]

theorem pur_own {h : Nat → Option Blk} {b k len m : Nat} {rows : List (List D)} (hb : h b = some ⟨k, true, rows⟩) (hl : rows.length = len) : pur h (m + 1) (.os b 0 len) = some (.sl rows) := by
  simp only [pur, hb, Option.bind_some]
  rw [if_pos (by omega), List.drop_zero, List.take_of_length_le (by omega)]
  rfl
theorem pur2_own {b1 b2 k1 k2 n1 n2 : Nat} {r1 r2 : List (List D)} (h1 : evalD env x = .os b1 0 n1) (h2 : evalD env y = .os b2 0 n2) (hb1 : lkH hp b1 = some ⟨k1, true, r1⟩) (hb2 : lkH hp b2 = some ⟨k2, true, r2⟩) (hl1 : r1.length = n1) (hl2 : r2.length = n2) :
    purL (lkH hp) 64 ([x, y].map (evalD env)) = some [.sl r1, .sl r2] := by
  simp only [List.map_cons, List.map_nil, h1, h2, purL, pur_own (m := 62) hb1 hl1, pur_own (m := 61) hb2 hl2, Option.bind_some, Option.map_some]

end
end Go.Pv

/- Elements of own lists whose rows are an image. -/
namespace Go.Pv
section
variable {P : Program} {K : X → St → Prop} {env : Env} {hp : Hp} {nx n id : Nat} {s : Tmp} {x y f : Operand} {t t' : TypeId}
theorem getRow_map {α : Type} {l : List α} {f : α → List D} {i : Nat} (hi : i < l.length) : getRow (l.map f) i = f l[i] := by
  simp [getRow, List.getD_eq_getElem?_getD, hi]
theorem go_index_om {α : Type} {e : TypeId} {k k' b len : Nat} {fl : Bool} {l : List α} {f : α → List D} {ik : IntKind} {j : Int} {i : Nat} [hs : TSlice P t e k] (h : evalD env x = .os b 0 len) (h2 : evalD env y = .int ik j) (hb : lkH hp b = some ⟨k', fl, l.map f⟩) (hj : j = (i : Int))
    (hd : okDst n (some s) = true) (hkk : k' = k) (hi : i < len ∧ len ≤ l.length) (hc : ∀ (hlt : i < l.length), K .normal ⟨(s, (.op b i 0)) :: env, hp, nx, n⟩) : evOp P (.indexAddr t x y) id (some s) ⟨env, hp, nx, n⟩ K := by
  subst hj
  refine go_index_own h h2 hb hd hkk ⟨by omega, ?_⟩ ?_
  · show 0 + len ≤ (l.map f).length
    rw [List.length_map]; omega
  · simpa only [Int.toNat_natCast, Nat.zero_add] using hc (by omega)
theorem go_load_om {α : Type} {sh' : Sh} {b i o k : Nat} {fl : Bool} {l : List α} {f : α → List D} {d : D} [hs : TSh P t sh'] (h : evalD env x = .op b i o) (hb : lkH hp b = some ⟨k, fl, l.map f⟩) (hi : i < l.length) (hc : fromCells sh' ((f l[i]).drop o) = some d) (hd : okDst n (some s) = true)
    (hk : K .normal ⟨(s, d) :: env, hp, nx, n⟩) : evOp P (.load t x) id (some s) ⟨env, hp, nx, n⟩ K :=
  go_load_own h hb (by show fromCells sh' ((getRow (l.map f) i).drop o) = some d; rw [getRow_map hi]; exact hc) hd hk
end
end Go.Pv

/- One element appended to a nil list. -/
namespace Go.Pv
section
variable {P : Program} {K : X → St → Prop} {env : Env} {hp : Hp} {nx n id : Nat} {s : Tmp} {x y f : Operand} {t t' : TypeId}
theorem go_app_nil {α : Type} {f : α → List D} {e k b2 : Nat} {a : α} {fl2 : Bool} [hs : TSlice P t e k] (hf : ScalF f k) (h1 : evalD env x = .nilsl) (h2 : evalD env y = .os b2 0 1) (hb2 : lkH hp b2 = some ⟨k, fl2, [f a]⟩)
    (hc1 : ((f a).all cell1) = true) (hz : zeroOK P e = true) (hby : Nat.ble (P.bytesOf e) 4096 = true) : appendD P (lkH hp) t (evalD env x) (evalD env y) = some (none, ⟨k, true, [a].map f⟩) := by
  have hby' : P.bytesOf e ≤ 4096 := Nat.le_of_ble_eq_true hby
  have hx : contentD (lkH hp) (.os b2 0 1) = some [f a] := by simp [contentD, hb2]
  unfold appendD
  rw [hs.u, h1, h2]
  have ho : contentD (lkH hp) .nilsl = some [] := rfl
  simp only [hx, ho, Option.bind_some]
  have hft : flatRows [f a] = true := by
    have := flat_map hf [a]
    simpa using this
  rw [if_pos]
  · simp [hs.c, hft]
  · refine ⟨by rw [hs.c]; exact hs.p, fun r hr => ?_, fun r hr c hc => ?_, by simp; omega, by simp, hz, by simp [kOK, hb2, hs.c]⟩
    · simp only [List.mem_singleton] at hr
      rw [hr, (hf a).1, hs.c]
    · simp only [List.mem_singleton] at hr
      subst hr
      exact List.all_eq_true.1 hc1 c hc
end
end Go.Pv

/- Loops with a measure; parts of own lists; stores into own lists whose rows are an image. -/
namespace Go.Pv
section
variable {P : Program} {E : St → St → Prop} {K : X → St → Prop} {env : Env} {hp : Hp} {nx n id : Nat} {s : Tmp} {x y f : Operand} {t t' : TypeId}

/-- A loop whose states carry a measure that falls. -/
theorem go_while {σ : Type} (μ : σ → Nat) (S : σ → St) (C : σ → Prop) (x0 : σ) {c : Code} {st : St} (he : E st (S x0)) (h0 : C x0)
    (h : ∀ x, C x → evG E P c (kSeq (fun st' => ∃ y, μ y < μ x ∧ C y ∧ E st' (S y)) K) (S x)) : evG E P (.loop c) K st := by
  refine go_loop (fun m s => ∃ x, m = μ x ∧ C x ∧ s = S x) (μ x0) (S x0) he ⟨x0, rfl, h0, rfl⟩ ?_
  rintro m s ⟨x, rfl, hC, rfl⟩
  have := h x hC
  have key : ∀ (c : Code) (f g : St → Prop) (s : St), (∀ st, f st → g st) → evG E P c (kSeq f K) s → evG E P c (kSeq g K) s := fun c f g s hfg => ev_mono c _ _ s fun x st hx => by
    cases x <;> first | exact hfg st hx | exact hx
  refine key c _ _ _ (fun st' ⟨y, h1, h2, h3⟩ => ?_) this
  exact ⟨μ y, S y, h1, h3, y, rfl, h2, rfl⟩

/-- The elements behind the first ones, of a list of one's own. -/
theorem go_drop_os {e : TypeId} {k b off len : Nat} {blk : Blk} {ik : IntKind} {i : Int} [hs : TSlice P t e k] (h : evalD env x = .os b off len) (h2 : evalD env y = .int ik i) (hb : lkH hp b = some blk) (hkk : blk.k = k) (hd : okDst n (some s) = true)
    (hi : 0 ≤ i ∧ i ≤ len) (hk : K .normal ⟨(s, .os b (off + i.toNat) (len - i.toNat)) :: env, hp, nx, n⟩) : evOp P (.slice t x (some y) none none) id (some s) ⟨env, hp, nx, n⟩ K := by
  rw [evOp_slice]
  refine ⟨.os b (off + i.toNat) (len - i.toNat), ?_, hd, hk⟩
  simp only [Option.map_none, Option.map_some, h, h2, sliceD, hs.u, boundD, hb]
  rw [if_pos hi.1]
  simp only []
  rw [if_pos]
  exact ⟨by omega, Nat.le_refl _, by rw [hs.c]; exact hs.p, by rw [hkk, hs.c]⟩

/-- The place of an element of a part of an own list. -/
theorem go_index_oq {α : Type} {e : TypeId} {k k' b off len : Nat} {fl : Bool} {l : List α} {f : α → List D} {ik : IntKind} {j : Int} {i : Nat} [hs : TSlice P t e k] (h : evalD env x = .os b off len) (h2 : evalD env y = .int ik j) (hb : lkH hp b = some ⟨k', fl, l.map f⟩) (hj : j = (i : Int))
    (hd : okDst n (some s) = true) (hkk : k' = k) (hi : i < len ∧ off + len ≤ l.length) (hc : ∀ (_ : off + i < l.length), K .normal ⟨(s, (.op b (off + i) 0)) :: env, hp, nx, n⟩) : evOp P (.indexAddr t x y) id (some s) ⟨env, hp, nx, n⟩ K := by
  subst hj
  refine go_index_own h h2 hb hd hkk ⟨by omega, ?_⟩ ?_
  · show off + len ≤ (l.map f).length
    rw [List.length_map]; omega
  · simpa only [Int.toNat_natCast] using hc (by omega)

/-- One element appended to the part of an own list that reaches to its end. -/
theorem go_app_mapq {α : Type} {f : α → List D} {e k b b2 off len : Nat} {l : List α} {a : α} {fl2 : Bool} [hs : TSlice P t e k] (hf : ScalF f k) (h1 : evalD env x = .os b off len) (h2 : evalD env y = .os b2 0 1) (hb : lkH hp b = some ⟨k, true, l.map f⟩) (hlen : l.length = off + len) (hb2 : lkH hp b2 = some ⟨k, fl2, [f a]⟩)
    (hc1 : ((f a).all cell1) = true) (hz : zeroOK P e = true) (hby : Nat.ble (P.bytesOf e) 4096 = true) (hn : len ≤ 1000000000) (hd : okDst n (some s) = true)
    (hk : K .normal ⟨(s, .os b 0 (len + 1)) :: purgeE b env, (b, ⟨k, true, (l.drop off ++ [a]).map f⟩) :: purgeH b hp, nx, n⟩) : evOp P (.call { callee := .builtin .append, args := #[x, y], argTypes := #[t, t] }) id (some s) ⟨env, hp, nx, n⟩ K := by
  have hby' : P.bytesOf e ≤ 4096 := Nat.le_of_ble_eq_true hby
  have hap : appendD P (lkH hp) t (evalD env x) (evalD env y) = some (some b, ⟨k, true, (l.drop off ++ [a]).map f⟩) := by
    have hx : contentD (lkH hp) (.os b2 0 1) = some [f a] := by simp [contentD, hb2]
    have ho : contentD (lkH hp) (.os b off len) = some ((l.drop off).map f) := by
      simp only [contentD, hb, Option.bind_some]
      rw [if_pos (by simp [hlen])]
      rw [List.map_drop, List.take_of_length_le (by simp; omega)]
    unfold appendD
    rw [hs.u, h1, h2]
    simp only [hx, ho, Option.bind_some]
    have hmul : (len + 1) * P.bytesOf e ≤ 140737488355328 := by
      have := Nat.mul_le_mul (show len + 1 ≤ 1000000001 by omega) hby'
      omega
    have hdl : (l.drop off).length = len := by simp; omega
    rw [if_pos]
    · rw [hb]
      simp only [Option.bind_some]
      rw [if_pos]
      · have hft : flatRows [f a] = true := by
          have := flat_map hf [a]
          simpa using this
        simp [hs.c, hft]
      · refine ⟨.inl hs.c.symm, fun r hr c hc => ?_⟩
        have : ∃ a', r = f a' := by
          simp only [List.mem_append, List.mem_map, List.mem_singleton] at hr
          rcases hr with ⟨a', _, rfl⟩ | rfl
          · exact ⟨a', rfl⟩
          · exact ⟨a, rfl⟩
        obtain ⟨a', rfl⟩ := this
        exact scal1_ment (List.all_eq_true.1 (hf a').2 c hc)
    · refine ⟨by rw [hs.c]; exact hs.p, fun r hr => ?_, fun r hr c hc => ?_, by simp only [List.length_map, hdl, List.length_cons, List.length_nil]; exact hmul, by simp only [List.length_map, hdl, List.length_cons, List.length_nil]; omega, hz, by simp [kOK, hb2, hs.c]⟩
      · simp only [List.mem_singleton] at hr
        rw [hr, (hf a).1, hs.c]
      · simp only [List.mem_singleton] at hr
        subst hr
        exact List.all_eq_true.1 hc1 c hc
  refine go_append_on hap hd ?_
  have e : (⟨k, true, (l.drop off ++ [a]).map f⟩ : Blk).rows.length = len + 1 := by simp; omega
  rw [e]
  exact hk

/-- A store into an element of an own list, or into a part of it. -/
theorem go_store_om {α : Type} {b i off k k' : Nat} {v : D} {fl : Bool} {l : List α} {f : α → List D} {a : α} [hc : TCells P t k] (ha : evalD env x = .op b i off) (hv : evalD env y = v) (hb : lkH hp b = some ⟨k', fl, l.map f⟩) (hi : i < l.length) (hkn : known v = true) (hl : (cellsD v).length = k) (h1 : (cellsD v).all cell1 = true) (h2 : (cellsD v).all lite = true)
    (hfit : off + k ≤ k') (hs : spliceL (f l[i]) off (cellsD v) = f a) (hk : K .normal ⟨env, updH b ⟨k', fl, (l.set i a).map f⟩ hp, nx, n⟩) :
    evOp P (.store t x y) id none ⟨env, hp, nx, n⟩ K := by
  refine go_store (rows := (l.set i a).map f) (fl := fl) ha hv hb hkn hl h1 hfit (by simpa using hi) ?_ (by simp [h2]) hk
  show (l.map f).set i (spliceL (getRow (l.map f) i) off (cellsD v)) = _
  rw [getRow_map hi, hs, List.map_set]

/-- A cell that is itself in any memory. -/
def cellP : D → Bool
  | .int .. | .bool _ | .str _ | .sl _ | .ptr _ => true
  | _ => false
theorem pur_cellP {h : Nat → Option Blk} {m : Nat} {c : D} (hc : cellP c = true) : pur h (m + 1) c = some c := by
  cases c <;> first | (cases hc; done) | rfl
theorem finL_cells {h hX : Nat → Option Blk} {b k len : Nat} {rows : List (List D)} (hb : h b = some ⟨k, true, rows⟩) (hlen : rows.length = len) : ∀ {cs tl tr : List D} {ss : List Src}, cs.all cellP = true → finL h hX ss tl tr →
    finL h hX (cs.map (fun _ => Src.pure) ++ .blk b :: ss) (cs ++ .os b 0 len :: tl) (cs ++ .fr k rows :: tr)
  | [], _, _, _, _, ht => ⟨⟨⟨k, true, rows⟩, rows, by rw [hlen], hb, rfl, by simp⟩, ht⟩
  | c :: cs, _, _, _, hc, ht => by
    simp only [List.all_cons, Bool.and_eq_true] at hc
    exact ⟨pur_cellP (m := 63) hc.1, finL_cells hb hlen hc.2 ht⟩
theorem frsOf_cells {b : Nat} {ss : List Src} : ∀ (cs : List D), frsOf (cs.map (fun _ => Src.pure) ++ .blk b :: ss) = b :: frsOf ss
  | [] => rfl
  | c :: cs => by simp only [List.map_cons, List.cons_append, frsOf]; exact frsOf_cells cs
theorem cells_agg (cs : List D) : cellsD (.agg cs) = cs := rfl
theorem refl_agg (cs : List D) : reflE (.agg cs) = cs.all reflC := rfl
theorem isCell_cellP {c : D} (h : cellP c = true) : isCell c = true := by cases c <;> first | (cases h; done) | rfl

/-- A struct is returned whose last cell is a new list. -/
theorem fin_agf {rv : ResultVar} {cs : List D} {b k len : Nat} {rows : List (List D)} (h : resD P ⟨env, hp, nx, n⟩ rv = some (.agg (cs ++ [.os b 0 len]))) (hb : lkH hp b = some ⟨k, true, rows⟩) (hlen : rows.length = len) (hc : cs.all cellP = true) : Fin P [rv] ⟨env, hp, nx, n⟩ (.agg (cs ++ [.fr k rows])) := by
  refine .inr ⟨cs.map (fun _ => Src.pure) ++ [.blk b], [.agg (cs ++ [.os b 0 len])], [.agg (cs ++ [.fr k rows])], by simp [h], by rw [frsOf_cells]; simp [frsOf], ?_, rfl, fun _ => rfl, by simp [isCell, cellsD], ?_⟩
  · simp only [List.flatMap_cons, List.flatMap_nil, List.append_nil, cellsD]
    exact finL_cells hb hlen hc trivial
  · simp only [List.flatMap_cons, List.flatMap_nil, List.append_nil, cellsD, List.all_append, List.all_cons, List.all_nil, Bool.and_true, Bool.and_eq_true]
    exact ⟨List.all_eq_true.2 fun c h => isCell_cellP (List.all_eq_true.1 hc c h), rfl⟩
/-- With a single value. -/
theorem fin_agf2 {r1 r2 : ResultVar} {cs : List D} {b k len : Nat} {rows : List (List D)} {d2 : D} (h : resD P ⟨env, hp, nx, n⟩ r1 = some (.agg (cs ++ [.os b 0 len]))) (hb : lkH hp b = some ⟨k, true, rows⟩) (hlen : rows.length = len) (hc : cs.all cellP = true) (h2 : resD P ⟨env, hp, nx, n⟩ r2 = some d2) (hs : cellP d2 = true) :
    Fin P [r1, r2] ⟨env, hp, nx, n⟩ (.tup [.agg (cs ++ [.fr k rows]), d2]) := by
  have hd2 : cellsD d2 = [d2] := by cases d2 <;> first | (cases hs; done) | rfl
  refine .inr ⟨cs.map (fun _ => Src.pure) ++ [.blk b, .pure], [.agg (cs ++ [.os b 0 len]), d2], [.agg (cs ++ [.fr k rows]), d2], by simp [h, h2], by rw [frsOf_cells]; simp [frsOf], ?_, rfl, fun h => by simp at h, by simp [isCell, cellsD], ?_⟩
  · simp only [List.flatMap_cons, List.flatMap_nil, List.append_nil, cells_agg, hd2, List.append_assoc, List.cons_append, List.nil_append]
    exact finL_cells hb hlen hc ⟨pur_cellP (m := 63) hs, trivial⟩
  · simp only [List.flatMap_cons, List.flatMap_nil, List.append_nil, cells_agg, hd2, List.all_append, List.all_cons, List.all_nil, Bool.and_true, Bool.and_eq_true]
    exact ⟨⟨List.all_eq_true.2 fun c h => isCell_cellP (List.all_eq_true.1 hc c h), rfl⟩, isCell_cellP hs⟩
theorem fin_agf3 {r1 r2 r3 : ResultVar} {cs : List D} {b k len : Nat} {rows : List (List D)} {d2 d3 : D} (h : resD P ⟨env, hp, nx, n⟩ r1 = some (.agg (cs ++ [.os b 0 len]))) (hb : lkH hp b = some ⟨k, true, rows⟩) (hlen : rows.length = len) (hc : cs.all cellP = true) (h2 : resD P ⟨env, hp, nx, n⟩ r2 = some d2) (hs : cellP d2 = true) (h3 : resD P ⟨env, hp, nx, n⟩ r3 = some d3) (hs3 : cellP d3 = true) :
    Fin P [r1, r2, r3] ⟨env, hp, nx, n⟩ (.tup [.agg (cs ++ [.fr k rows]), d2, d3]) := by
  have hd2 : cellsD d2 = [d2] := by cases d2 <;> first | (cases hs; done) | rfl
  have hd3 : cellsD d3 = [d3] := by cases d3 <;> first | (cases hs3; done) | rfl
  refine .inr ⟨cs.map (fun _ => Src.pure) ++ [.blk b, .pure, .pure], [.agg (cs ++ [.os b 0 len]), d2, d3], [.agg (cs ++ [.fr k rows]), d2, d3], by simp [h, h2, h3], by rw [frsOf_cells]; simp [frsOf], ?_, rfl, fun h => by simp at h, by simp [isCell, cellsD], ?_⟩
  · simp only [List.flatMap_cons, List.flatMap_nil, List.append_nil, cells_agg, hd2, hd3, List.append_assoc, List.cons_append, List.nil_append]
    exact finL_cells hb hlen hc ⟨pur_cellP (m := 63) hs, pur_cellP (m := 63) hs3, trivial⟩
  · simp only [List.flatMap_cons, List.flatMap_nil, List.append_nil, cells_agg, hd2, hd3, List.all_append, List.all_cons, List.all_nil, Bool.and_true, Bool.and_eq_true]
    exact ⟨⟨List.all_eq_true.2 fun c h => isCell_cellP (List.all_eq_true.1 hc c h), rfl⟩, isCell_cellP hs, isCell_cellP hs3⟩
/-- A new list is returned. -/
theorem end_frn {α : Type} {f : α → List D} {rv : ResultVar} {b k len : Nat} {l l' : List α} (h : resD P ⟨env, hp, nx, n⟩ rv = some (.os b 0 len)) (hb : lkH hp b = some ⟨k, true, l.map f⟩) (hlen : l.length = len) (e : l = l') : finK P [rv] (.ret (.fr k (l'.map f))) .ret ⟨env, hp, nx, n⟩ := by
  subst hlen
  exact end_fr h hb e

theorem adL_cells {k : Nat} {rows : List (List D)} : ∀ {cs : List D} {m : Nat}, cs.all cellP = true → adL m (cs ++ [.fr k rows]) = (cs ++ [.os (m + cs.length) 0 rows.length], [(m + cs.length, ⟨k, flatRows rows, rows⟩)])
  | [], m, _ => by simp [adL, adC]
  | c :: cs, m, h => by
    simp only [List.all_cons, Bool.and_eq_true] at h
    have hc : adC m c = (c, []) := by cases c <;> first | rfl | (exact absurd h.1 (by simp [cellP]))
    simp only [List.cons_append, adL, hc, adL_cells (cs := cs) (m := m + 1) h.2, List.nil_append, List.length_cons]
    rw [show m + 1 + cs.length = m + (cs.length + 1) by omega]
theorem pur_os {h : Nat → Option Blk} {b len k m : Nat} {rows : List (List D)} (hb : h b = some ⟨k, true, rows⟩) (hl : rows.length = len) : pur h (m + 1) (.os b 0 len) = some (.sl rows) := by
  simp only [pur, hb, Option.bind_some]
  rw [if_pos (by omega)]
  simp [← hl]
theorem purL_cells {h : Nat → Option Blk} {b len k : Nat} {rows : List (List D)} (hb : h b = some ⟨k, true, rows⟩) (hl : rows.length = len) : ∀ {cs : List D} {m : Nat}, cs.length + 1 < m → cs.all cellP = true → purL h m (cs ++ [.os b 0 len]) = some (cs ++ [.sl rows])
  | [], m + 2, _, _ => by simp only [List.nil_append, purL, pur_os hb hl, Option.bind_some, Option.map_some]
  | c :: cs, m + 2, hm, hs => by
    simp only [List.all_cons, Bool.and_eq_true] at hs
    simp only [List.length_cons] at hm
    simp only [List.cons_append, purL, pur_cellP (m := m) hs.1, purL_cells hb hl (cs := cs) (m := m + 1) (by omega) hs.2, Option.bind_some, Option.map_some]
  | _ :: _, 0, hm, _ => absurd hm (by simp)
  | _ :: _, 1, hm, _ => absurd hm (by simp)
  | [], 0, hm, _ => absurd hm (by simp)
  | [], 1, hm, _ => absurd hm (by simp)
/-- A struct whose last cell is an own list, handed over with others. -/
theorem purL_agf {h : Nat → Option Blk} {b len k : Nat} {rows : List (List D)} {cs ds rs : List D} (hb : h b = some ⟨k, true, rows⟩) (hl : rows.length = len) (hc : cs.all cellP = true) (hn : Nat.ble cs.length 40 = true) (hr : purL h 63 ds = some rs) :
    purL h 64 (.agg (cs ++ [.os b 0 len]) :: ds) = some (.agg (cs ++ [.sl rows]) :: rs) := by
  have hn' := Nat.le_of_ble_eq_true hn
  have e : pur h 63 (.agg (cs ++ [.os b 0 len])) = some (.agg (cs ++ [.sl rows])) := by
    show (purL h 62 _).map D.agg = _
    rw [purL_cells hb hl (by omega) hc]
    rfl
  show (pur h 63 _).bind _ = _
  rw [e]
  simp only [Option.bind_some, hr, Option.map_some]
/-- A call that returns a struct whose last cell is a new list; its arguments lead to no memory of one's own. -/
theorem go_fn_agf {α : Type} {f : α → List D} {k q : Nat} {l : List α} {cs : List D} {args : List Operand} {ts : Array TypeId} {g : FuncId} {args' : List D} (hp' : purL (lkH hp) 64 (args.map (evalD env)) = some args') (hc : Contract P g args' (.ret (.agg (cs ++ [.fr k (l.map f)])))) (hf : ScalF f k) (hcs : cs.all cellP = true) (hq : cs.length = q) (hw : Nat.ble q 31 = true)
    (hr : pureL (args.map (evalD env)) = true) (hd : okDst n (some s) = true)
    (h : K .normal ⟨(s, .agg (cs ++ [.os (id + q) 0 l.length])) :: env, (id + q, ⟨k, true, l.map f⟩) :: hp, nx, n⟩) : evOp P (.call { callee := .value (.func g), args := args.toArray, argTypes := ts }) id (some s) ⟨env, hp, nx, n⟩ K := by
  subst hq
  have hw' := Nat.le_of_ble_eq_true hw
  refine go_call_fn hp' hc (by rw [hr, Bool.true_or]) (by simp [widR, widE]; omega) hd ?_
  have e : adopt id (.agg (cs ++ [.fr k (l.map f)])) = (.agg (cs ++ [.os (id + cs.length) 0 l.length]), [(id + cs.length, ⟨k, true, l.map f⟩)]) := by
    simp [adopt, adE, adL_cells hcs, flat_map hf]
  rw [e]
  exact h
/-- The same with a single value; the struct's other cells are single values. -/
theorem go_fn_agf2 {α : Type} {f : α → List D} {k q : Nat} {l : List α} {cs : List D} {d2 : D} {args : List Operand} {ts : Array TypeId} {g : FuncId} {args' : List D} (hp' : purL (lkH hp) 64 (args.map (evalD env)) = some args') (hc : Contract P g args' (.ret (.tup [.agg (cs ++ [.fr k (l.map f)]), d2]))) (hf : ScalF f k) (hcs : cs.all cellP = true) (hq : cs.length = q) (hw : Nat.ble q 30 = true)
    (h2 : cellP d2 = true) (hr : (cs.all scal1 && scal1 d2) = true) (hd : okDst n (some s) = true)
    (h : K .normal ⟨(s, .tup [.agg (cs ++ [.os (id + q) 0 l.length]), d2]) :: env, (id + q, ⟨k, true, l.map f⟩) :: hp, nx, n⟩) : evOp P (.call { callee := .value (.func g), args := args.toArray, argTypes := ts }) id (some s) ⟨env, hp, nx, n⟩ K := by
  subst hq
  have hw' := Nat.le_of_ble_eq_true hw
  simp only [Bool.and_eq_true] at hr
  have w2 : widE d2 = 1 := by cases d2 <;> first | (cases h2; done) | rfl
  have ha2 : ∀ m, adE m d2 = (d2, []) := fun m => by cases d2 <;> first | (cases h2; done) | rfl
  have r2 : reflE d2 = true := plain_reflE (by cases d2 <;> first | (cases h2; done) | exact hr.2)
  refine go_call_fn hp' hc ?_ (by simp [widR, w2]; simp [widE]; omega) hd ?_
  · have : refless (.tup [.agg (cs ++ [.fr k (l.map f)]), d2]) = true := by
      simp only [refless, List.all_cons, List.all_nil, Bool.and_true, r2, refl_agg, List.all_append]
      rw [Bool.and_eq_true]
      refine ⟨List.all_eq_true.2 fun c hc => ?_, scalR_map hf l⟩
      have h1 := List.all_eq_true.1 hcs c hc
      have h2 := List.all_eq_true.1 hr.1 c hc
      cases c <;> first | (cases h1; done) | (cases h2; done) | rfl
    rw [this, Bool.or_true]
  have e : adopt id (.tup [.agg (cs ++ [.fr k (l.map f)]), d2]) = (.tup [.agg (cs ++ [.os (id + cs.length) 0 l.length]), d2], [(id + cs.length, ⟨k, true, l.map f⟩)]) := by
    simp only [adopt, adT, ha2]
    simp [adE, adL_cells hcs, flat_map hf]
  rw [e]
  exact h
theorem go_fn_agf3 {α : Type} {f : α → List D} {k q : Nat} {l : List α} {cs : List D} {d2 d3 : D} {args : List Operand} {ts : Array TypeId} {g : FuncId} {args' : List D} (hp' : purL (lkH hp) 64 (args.map (evalD env)) = some args') (hc : Contract P g args' (.ret (.tup [.agg (cs ++ [.fr k (l.map f)]), d2, d3]))) (hf : ScalF f k) (hcs : cs.all cellP = true) (hq : cs.length = q) (hw : Nat.ble q 29 = true)
    (h2 : cellP d2 = true) (h3 : cellP d3 = true) (hr : (cs.all scal1 && scal1 d2 && scal1 d3) = true) (hd : okDst n (some s) = true)
    (h : K .normal ⟨(s, .tup [.agg (cs ++ [.os (id + q) 0 l.length]), d2, d3]) :: env, (id + q, ⟨k, true, l.map f⟩) :: hp, nx, n⟩) : evOp P (.call { callee := .value (.func g), args := args.toArray, argTypes := ts }) id (some s) ⟨env, hp, nx, n⟩ K := by
  subst hq
  have hw' := Nat.le_of_ble_eq_true hw
  simp only [Bool.and_eq_true] at hr
  have w2 : widE d2 = 1 := by cases d2 <;> first | (cases h2; done) | rfl
  have w3 : widE d3 = 1 := by cases d3 <;> first | (cases h3; done) | rfl
  have ha2 : ∀ m, adE m d2 = (d2, []) := fun m => by cases d2 <;> first | (cases h2; done) | rfl
  have ha3 : ∀ m, adE m d3 = (d3, []) := fun m => by cases d3 <;> first | (cases h3; done) | rfl
  have r2 : reflE d2 = true := plain_reflE (by cases d2 <;> first | (cases h2; done) | exact hr.1.2)
  have r3 : reflE d3 = true := plain_reflE (by cases d3 <;> first | (cases h3; done) | exact hr.2)
  refine go_call_fn hp' hc ?_ (by simp [widR, w2, w3]; simp [widE]; omega) hd ?_
  · have : refless (.tup [.agg (cs ++ [.fr k (l.map f)]), d2, d3]) = true := by
      simp only [refless, List.all_cons, List.all_nil, Bool.and_true, r2, r3, refl_agg, List.all_append]
      rw [Bool.and_eq_true]
      refine ⟨List.all_eq_true.2 fun c hc => ?_, scalR_map hf l⟩
      have h1 := List.all_eq_true.1 hcs c hc
      have h2 := List.all_eq_true.1 hr.1.1 c hc
      cases c <;> first | (cases h1; done) | (cases h2; done) | rfl
    rw [this, Bool.or_true]
  have e : adopt id (.tup [.agg (cs ++ [.fr k (l.map f)]), d2, d3]) = (.tup [.agg (cs ++ [.os (id + cs.length) 0 l.length]), d2, d3], [(id + cs.length, ⟨k, true, l.map f⟩)]) := by
    simp only [adopt, adT, ha2, ha3]
    simp [adE, adL_cells hcs, flat_map hf]
  rw [e]
  exact h
end
end Go.Pv

/- Own lists handed over. -/
namespace Go.Pv
theorem purL_os {h : Nat → Option Blk} {b len k : Nat} {rows : List (List D)} {ds rs : List D} (hb : h b = some ⟨k, true, rows⟩) (hl : rows.length = len) (hr : purL h 63 ds = some rs) : purL h 64 (.os b 0 len :: ds) = some (.sl rows :: rs) := by
  show (pur h 63 _).bind _ = _
  rw [pur_os hb hl]
  simp only [Option.bind_some, hr, Option.map_some]
end Go.Pv

/- A whole list appended to an empty one; lists that are not empty compared with nil. -/
namespace Go.Pv
section
variable {P : Program} {K : X → St → Prop} {env : Env} {hp : Hp} {nx n id : Nat} {s : Tmp} {x y : Operand} {t : TypeId}
theorem go_app_sl {α : Type} {f : α → List D} {e k b : Nat} {l : List α} [hs : TSlice P t e k] (hf : ScalF f k) (h1 : evalD env x = .os b 0 0) (h2 : evalD env y = .sl (l.map f)) (hb : lkH hp b = some ⟨0, true, []⟩)
    (hc1 : ∀ a, ((f a).all cell1) = true) (hz : zeroOK P e = true) (hby : Nat.ble (P.bytesOf e) 4096 = true) (hn : l.length ≤ 1000000000) (hd : okDst n (some s) = true)
    (hk : K .normal ⟨(s, .os b 0 l.length) :: purgeE b env, (b, ⟨k, true, l.map f⟩) :: purgeH b hp, nx, n⟩) : evOp P (.call { callee := .builtin .append, args := #[x, y], argTypes := #[t, t] }) id (some s) ⟨env, hp, nx, n⟩ K := by
  have hby' : P.bytesOf e ≤ 4096 := Nat.le_of_ble_eq_true hby
  have hap : appendD P (lkH hp) t (evalD env x) (evalD env y) = some (some b, ⟨k, true, l.map f⟩) := by
    have ho : contentD (lkH hp) (.os b 0 0) = some [] := by simp [contentD, hb]
    unfold appendD
    rw [hs.u, h1, h2]
    have hx : contentD (lkH hp) (.sl (l.map f)) = some (l.map f) := rfl
    simp only [hx, ho, Option.bind_some]
    have hmul : l.length * P.bytesOf e ≤ 140737488355328 := by
      have := Nat.mul_le_mul hn hby'
      omega
    rw [if_pos]
    · rw [hb]
      simp only [Option.bind_some]
      rw [if_pos]
      · simp [hs.c, flat_map hf]
      · refine ⟨.inr (by trivial), fun r hr c hc => ?_⟩
        simp only [List.nil_append] at hr
        obtain ⟨a, _, rfl⟩ := List.mem_map.1 hr
        exact scal1_ment (List.all_eq_true.1 (hf a).2 c hc)
    · refine ⟨by rw [hs.c]; exact hs.p, fun r hr => ?_, fun r hr c hc => ?_, by simpa using hmul, by simp; omega, hz, rfl⟩
      · obtain ⟨a, _, rfl⟩ := List.mem_map.1 hr
        rw [(hf a).1, hs.c]
      · obtain ⟨a, _, rfl⟩ := List.mem_map.1 hr
        exact List.all_eq_true.1 (hc1 a) c hc
  refine go_append_on hap hd ?_
  have e : (⟨k, true, l.map f⟩ : Blk).rows.length = l.length := by simp
  rw [e]
  exact hk

theorem go_nileq_sl {α : Type} {f : α → List D} {e k : Nat} {l : List α} {r : TypeId} [hs : TSlice P t e k] (h : evalD env x = .sl (l.map f)) (hne : 0 < l.length) (hd : okDst n (some s) = true) (hk : K .normal ⟨(s, .bool false) :: env, hp, nx, n⟩) :
    evOp P (.binOp .eql t x (.const (.slice none 0 0)) r) id (some s) ⟨env, hp, nx, n⟩ K := by
  refine go_nilcmp (bs := [false]) ?_ rfl ?_ rfl hd ?_
  · simp only [op0, h]; rfl
  · simp only [nilB, nilT, hs.u, h, nilS]
    have : (l.map f).isEmpty = false := by
      cases l with
      | nil => simp at hne
      | cons a l => rfl
    rw [this]; rfl
  · intro b hb
    simp only [List.mem_singleton] at hb
    subst hb
    exact hk
end
end Go.Pv

/- Structs whose last cell is a nil list, as results. -/
namespace Go.Pv
section
variable {P : Program} {K : X → St → Prop} {env : Env} {hp : Hp} {nx n id : Nat}
theorem finL_nils {h hX : Nat → Option Blk} {k : Nat} : ∀ {cs tl tr : List D} {ss : List Src}, cs.all cellP = true → finL h hX ss tl tr →
    finL h hX (cs.map (fun _ => Src.pure) ++ .nil :: ss) (cs ++ .nilsl :: tl) (cs ++ .fr k [] :: tr)
  | [], _, _, _, _, ht => ⟨⟨rfl, k, rfl⟩, ht⟩
  | c :: cs, _, _, _, hc, ht => by
    simp only [List.all_cons, Bool.and_eq_true] at hc
    exact ⟨pur_cellP (m := 63) hc.1, finL_nils hc.2 ht⟩
theorem frsOf_nils {ss : List Src} : ∀ (cs : List D), frsOf (cs.map (fun _ => Src.pure) ++ .nil :: ss) = frsOf ss
  | [] => rfl
  | c :: cs => by simp only [List.map_cons, List.cons_append, frsOf]; exact frsOf_nils cs
theorem fin_agn3 {r1 r2 r3 : ResultVar} {cs : List D} {k : Nat} {d2 d3 : D} (h : resD P ⟨env, hp, nx, n⟩ r1 = some (.agg (cs ++ [.nilsl]))) (hc : cs.all cellP = true) (h2 : resD P ⟨env, hp, nx, n⟩ r2 = some d2) (hs : cellP d2 = true) (h3 : resD P ⟨env, hp, nx, n⟩ r3 = some d3) (hs3 : cellP d3 = true) :
    Fin P [r1, r2, r3] ⟨env, hp, nx, n⟩ (.tup [.agg (cs ++ [.fr k []]), d2, d3]) := by
  have hd2 : cellsD d2 = [d2] := by cases d2 <;> first | (cases hs; done) | rfl
  have hd3 : cellsD d3 = [d3] := by cases d3 <;> first | (cases hs3; done) | rfl
  refine .inr ⟨cs.map (fun _ => Src.pure) ++ [.nil, .pure, .pure], [.agg (cs ++ [.nilsl]), d2, d3], [.agg (cs ++ [.fr k []]), d2, d3], by simp [h, h2, h3], by rw [frsOf_nils]; simp [frsOf], ?_, rfl, fun h => by simp at h, by simp [isCell, cellsD], ?_⟩
  · simp only [List.flatMap_cons, List.flatMap_nil, List.append_nil, cells_agg, hd2, hd3, List.append_assoc, List.cons_append, List.nil_append]
    exact finL_nils hc ⟨pur_cellP (m := 63) hs, pur_cellP (m := 63) hs3, trivial⟩
  · simp only [List.flatMap_cons, List.flatMap_nil, List.append_nil, cells_agg, hd2, hd3, List.all_append, List.all_cons, List.all_nil, Bool.and_true, Bool.and_eq_true]
    exact ⟨⟨List.all_eq_true.2 fun c h => isCell_cellP (List.all_eq_true.1 hc c h), rfl⟩, isCell_cellP hs, isCell_cellP hs3⟩
/-- Two structs whose last cells are own lists, handed over. -/
theorem purL_agf_agf {h : Nat → Option Blk} {b len k b2 len2 k2 : Nat} {rows rows2 : List (List D)} {cs cs2 : List D} (hb : h b = some ⟨k, true, rows⟩) (hl : rows.length = len) (hc : cs.all cellP = true) (hn : Nat.ble cs.length 40 = true) (hb2 : h b2 = some ⟨k2, true, rows2⟩) (hl2 : rows2.length = len2) (hc2 : cs2.all cellP = true) (hn2 : Nat.ble cs2.length 40 = true) :
    purL h 64 [.agg (cs ++ [.os b 0 len]), .agg (cs2 ++ [.os b2 0 len2])] = some [.agg (cs ++ [.sl rows]), .agg (cs2 ++ [.sl rows2])] := by
  have hn2' := Nat.le_of_ble_eq_true hn2
  refine purL_agf hb hl hc hn ?_
  have e : pur h 62 (.agg (cs2 ++ [.os b2 0 len2])) = some (.agg (cs2 ++ [.sl rows2])) := by
    show (purL h 61 _).map D.agg = _
    rw [purL_cells hb2 hl2 (by omega) hc2]
    rfl
  show (pur h 62 _).bind _ = _
  rw [e]
  rfl
/-- A struct whose last cell is an own list, handed over behind another value. -/
theorem purL_agf2 {h : Nat → Option Blk} {b len k : Nat} {rows : List (List D)} {d d' : D} {cs ds rs : List D} (hd : pur h 63 d = some d') (hb : h b = some ⟨k, true, rows⟩) (hl : rows.length = len) (hc : cs.all cellP = true) (hn : Nat.ble cs.length 40 = true) (hr : purL h 62 ds = some rs) :
    purL h 64 (d :: .agg (cs ++ [.os b 0 len]) :: ds) = some (d' :: .agg (cs ++ [.sl rows]) :: rs) := by
  have hn' := Nat.le_of_ble_eq_true hn
  have e : pur h 62 (.agg (cs ++ [.os b 0 len])) = some (.agg (cs ++ [.sl rows])) := by
    show (purL h 61 _).map D.agg = _
    rw [purL_cells hb hl (by omega) hc]
    rfl
  have e2 : purL h 63 (.agg (cs ++ [.os b 0 len]) :: ds) = some (.agg (cs ++ [.sl rows]) :: rs) := by
    show (pur h 62 _).bind _ = _
    rw [e]
    simp only [Option.bind_some, hr, Option.map_some]
  show (pur h 63 d).bind _ = _
  rw [hd]
  simp only [Option.bind_some, e2, Option.map_some]
end
end Go.Pv

/- A call that hands over own memory and returns a struct whose last cell is a new list. -/
namespace Go.Pv
section
variable {P : Program} {K : X → St → Prop} {env : Env} {hp : Hp} {nx n id : Nat} {s : Tmp}
theorem go_fn_agfr {α : Type} {f : α → List D} {k q : Nat} {l : List α} {cs : List D} {args : List Operand} {ts : Array TypeId} {g : FuncId} {args' : List D} (hp' : purL (lkH hp) 64 (args.map (evalD env)) = some args') (hc : Contract P g args' (.ret (.agg (cs ++ [.fr k (l.map f)])))) (hf : ScalF f k) (hcs : cs.all cellP = true) (hq : cs.length = q) (hw : Nat.ble q 31 = true)
    (hr : cs.all scal1 = true) (hd : okDst n (some s) = true)
    (h : K .normal ⟨(s, .agg (cs ++ [.os (id + q) 0 l.length])) :: env, (id + q, ⟨k, true, l.map f⟩) :: hp, nx, n⟩) : evOp P (.call { callee := .value (.func g), args := args.toArray, argTypes := ts }) id (some s) ⟨env, hp, nx, n⟩ K := by
  subst hq
  have hw' := Nat.le_of_ble_eq_true hw
  refine go_call_fn hp' hc ?_ (by simp [widR, widE]; omega) hd ?_
  · have : refless (.agg (cs ++ [.fr k (l.map f)])) = true := by
      show (cs ++ [D.fr k (l.map f)]).all reflC = true
      rw [List.all_append, Bool.and_eq_true]
      refine ⟨List.all_eq_true.2 fun c hc => ?_, by simp only [List.all_cons, List.all_nil, Bool.and_true]; exact scalR_map hf l⟩
      have h1 := List.all_eq_true.1 hcs c hc
      have h2 := List.all_eq_true.1 hr c hc
      cases c <;> first | (cases h1; done) | (cases h2; done) | rfl
    rw [this, Bool.or_true]
  have e : adopt id (.agg (cs ++ [.fr k (l.map f)])) = (.agg (cs ++ [.os (id + cs.length) 0 l.length]), [(id + cs.length, ⟨k, true, l.map f⟩)]) := by
    simp [adopt, adE, adL_cells hcs, flat_map hf]
  rw [e]
  exact h
end
end Go.Pv

/- Scopes and labels. -/
namespace Go.Pv
section
variable {P : Program} {E : St → St → Prop} {K : X → St → Prop} {st : St}
theorem go_scope {c : Code} (h : evG E P c K st) : evG E P (.scope c) K st := h
theorem go_label {l : Nat} (h : K .normal st) : evG E P (.label l) K st := h
end
section
variable {P : Program} {E : St → St → Prop} {K : X → St → Prop} {env : Env} {hp : Hp} {nx n id : Nat} {s : Tmp} {x y u v : Operand} {t : TypeId}
theorem go_bs4_int {e : Nat} {z : D} {k k2 k3 k4 : IntKind} {a b c d : Int} [hs : TSlice P t e 1] [hz : TZero P e z] (h1 : evalD env x = .int k a) (h2 : evalD env y = .int k2 b) (h3 : evalD env u = .int k3 c) (h4 : evalD env v = .int k4 d) (hzl : (cellsD z).length = 1) (hd : okDst n (some s) = true)
    (hk : K .normal ⟨(s, .os id 0 4) :: env, (id, ⟨1, true, [[.int k a], [.int k2 b], [.int k3 c], [.int k4 d]]⟩) :: hp, nx, n⟩) : evOp P (.buildSlice t 4 #[(0, x), (1, y), (2, u), (3, v)]) id (some s) ⟨env, hp, nx, n⟩ K := by
  have ho : op1 P (evalD env) (.buildSlice t 4 #[(0, x), (1, y), (2, u), (3, v)]) = some (false, ⟨1, true, [[.int k a], [.int k2 b], [.int k3 c], [.int k4 d]]⟩) := by
    simp only [op1, hs.u, hz.h, Option.bind_some]
    rw [if_neg (by decide), if_pos ⟨hz.k, by rw [hzl, hs.c], by rw [hs.c]; decide, by rw [hs.c]; decide⟩]
    simp only [List.map_cons, List.map_nil, h1, h2, h3, h4, hs.c]
    rfl
  unfold evOp
  simp only [op0, ho]
  exact ⟨hd, hk⟩
end
end Go.Pv

/- A struct with an own list, handed over behind two values. -/
namespace Go.Pv
theorem purL_agf3 {h : Nat → Option Blk} {b len k : Nat} {rows : List (List D)} {d d' u u' : D} {cs ds rs : List D} (hd : pur h 63 d = some d') (hu : pur h 62 u = some u') (hb : h b = some ⟨k, true, rows⟩) (hl : rows.length = len) (hc : cs.all cellP = true) (hn : Nat.ble cs.length 40 = true) (hr : purL h 61 ds = some rs) :
    purL h 64 (d :: u :: .agg (cs ++ [.os b 0 len]) :: ds) = some (d' :: u' :: .agg (cs ++ [.sl rows]) :: rs) := by
  have hn' := Nat.le_of_ble_eq_true hn
  have e : pur h 61 (.agg (cs ++ [.os b 0 len])) = some (.agg (cs ++ [.sl rows])) := by
    show (purL h 60 _).map D.agg = _
    rw [purL_cells hb hl (by omega) hc]
    rfl
  have e2 : purL h 62 (.agg (cs ++ [.os b 0 len]) :: ds) = some (.agg (cs ++ [.sl rows]) :: rs) := by
    show (pur h 61 _).bind _ = _
    rw [e]
    simp only [Option.bind_some, hr, Option.map_some]
  have e3 : purL h 63 (u :: .agg (cs ++ [.os b 0 len]) :: ds) = some (u' :: .agg (cs ++ [.sl rows]) :: rs) := by
    show (pur h 62 u).bind _ = _
    rw [hu]
    simp only [Option.bind_some, e2, Option.map_some]
  show (pur h 63 d).bind _ = _
  rw [hd]
  simp only [Option.bind_some, e3, Option.map_some]
end Go.Pv

/- Lists of three and four structs; parts of own lists; calls that write into an own list. -/
namespace Go.Pv
class TArrE (P : Program) (t : TypeId) (len : outParam Nat) (e : outParam TypeId) (k : outParam Nat) : Prop where
  u : P.underlying t = some (.array len e)
  c : P.cellsOf e = k
  p : 0 < k
section
variable {P : Program} {E : St → St → Prop} {K : X → St → Prop} {env : Env} {hp : Hp} {nx n id : Nat} {s : Tmp} {x y u v f : Operand} {t : TypeId}

theorem go_bs3_agg {e k : Nat} {z : D} {c1 c2 c3 : List D} {fl : Bool} [hs : TSlice P t e k] [hz : TZero P e z] (h1 : evalD env x = .agg c1) (h2 : evalD env y = .agg c2) (h3 : evalD env u = .agg c3) (hzl : (cellsD z).length = k) (hl1 : c1.length = k) (hl2 : c2.length = k) (hl3 : c3.length = k)
    (hfl : flatRows [c1, c2, c3] = fl) (hsm : Nat.ble k 1000000 = true) (hd : okDst n (some s) = true)
    (hk : K .normal ⟨(s, .os id 0 3) :: env, (id, ⟨k, fl, [c1, c2, c3]⟩) :: hp, nx, n⟩) : evOp P (.buildSlice t 3 #[(0, x), (1, y), (2, u)]) id (some s) ⟨env, hp, nx, n⟩ K := by
  subst hfl
  have hsm := Nat.le_of_ble_eq_true hsm
  have ho : op1 P (evalD env) (.buildSlice t 3 #[(0, x), (1, y), (2, u)]) = some (false, ⟨k, flatRows [c1, c2, c3], [c1, c2, c3]⟩) := by
    simp only [op1, hs.u, hz.h, Option.bind_some]
    rw [if_neg (by decide), if_pos ⟨hz.k, by rw [hzl, hs.c], by rw [hs.c]; exact hs.p, by rw [hs.c]; omega⟩]
    simp only [List.map_cons, List.map_nil, h1, h2, h3, fillRows, List.replicate, List.length_cons, List.length_nil, List.length_set, cellsD]
    rw [if_pos ⟨rfl, by rw [hl1, hs.c], by omega⟩, if_pos ⟨rfl, by rw [hl2, hs.c], by omega⟩, if_pos ⟨rfl, by rw [hl3, hs.c], by omega⟩]
    simp [hs.c]
  unfold evOp
  simp only [op0, ho]
  exact ⟨hd, hk⟩

theorem go_bs4_agg {e k : Nat} {z : D} {c1 c2 c3 c4 : List D} {fl : Bool} [hs : TSlice P t e k] [hz : TZero P e z] (h1 : evalD env x = .agg c1) (h2 : evalD env y = .agg c2) (h3 : evalD env u = .agg c3) (h4 : evalD env v = .agg c4) (hzl : (cellsD z).length = k) (hl1 : c1.length = k) (hl2 : c2.length = k) (hl3 : c3.length = k) (hl4 : c4.length = k)
    (hfl : flatRows [c1, c2, c3, c4] = fl) (hsm : Nat.ble k 1000000 = true) (hd : okDst n (some s) = true)
    (hk : K .normal ⟨(s, .os id 0 4) :: env, (id, ⟨k, fl, [c1, c2, c3, c4]⟩) :: hp, nx, n⟩) : evOp P (.buildSlice t 4 #[(0, x), (1, y), (2, u), (3, v)]) id (some s) ⟨env, hp, nx, n⟩ K := by
  subst hfl
  have hsm := Nat.le_of_ble_eq_true hsm
  have ho : op1 P (evalD env) (.buildSlice t 4 #[(0, x), (1, y), (2, u), (3, v)]) = some (false, ⟨k, flatRows [c1, c2, c3, c4], [c1, c2, c3, c4]⟩) := by
    simp only [op1, hs.u, hz.h, Option.bind_some]
    rw [if_neg (by decide), if_pos ⟨hz.k, by rw [hzl, hs.c], by rw [hs.c]; exact hs.p, by rw [hs.c]; omega⟩]
    simp only [List.map_cons, List.map_nil, h1, h2, h3, h4, fillRows, List.replicate, List.length_cons, List.length_nil, List.length_set, cellsD]
    rw [if_pos ⟨rfl, by rw [hl1, hs.c], by omega⟩, if_pos ⟨rfl, by rw [hl2, hs.c], by omega⟩, if_pos ⟨rfl, by rw [hl3, hs.c], by omega⟩, if_pos ⟨rfl, by rw [hl4, hs.c], by omega⟩]
    simp [hs.c]
  unfold evOp
  simp only [op0, ho]
  exact ⟨hd, hk⟩

/-- An element of an array that is a value. -/
theorem go_index_agg {len k : Nat} {e : TypeId} {sh' : Sh} {cs : List D} {ik : IntKind} {i : Int} {d : D} [ha : TArrE P t len e k] [hs : TSh P e sh'] (h : evalD env x = .agg cs) (h2 : evalD env y = .int ik i) (hd : okDst n (some s) = true) (hi : 0 ≤ i ∧ i < len)
    (hc : fromCells sh' (cs.drop (i.toNat * k)) = some d) (hk : K .normal ⟨(s, d) :: env, hp, nx, n⟩) : evOp P (.index t x y) id (some s) ⟨env, hp, nx, n⟩ K := by
  rw [evOp_index]
  refine ⟨d, ?_, hd, hk⟩
  rw [h, h2]
  simp only [indexD, ha.u]
  rw [if_pos ⟨hi.1, hi.2, by rw [ha.c]; exact ha.p⟩, ha.c, hs.h]
  exact hc

/-- The first elements of a list of one's own. -/
theorem go_take_os {e : TypeId} {k b off len : Nat} {blk : Blk} {ik : IntKind} {i : Int} [hs : TSlice P t e k] (h : evalD env x = .os b off len) (h2 : evalD env y = .int ik i) (hb : lkH hp b = some blk) (hkk : blk.k = k) (hd : okDst n (some s) = true)
    (hi : 0 ≤ i ∧ i ≤ len) (hk : K .normal ⟨(s, .os b off i.toNat) :: env, hp, nx, n⟩) : evOp P (.slice t x none (some y) none) id (some s) ⟨env, hp, nx, n⟩ K := by
  rw [evOp_slice]
  refine ⟨.os b off i.toNat, ?_, hd, hk⟩
  simp only [Option.map_none, Option.map_some, h, h2, sliceD, hs.u, boundD, hb]
  rw [if_pos hi.1]
  simp only []
  rw [if_pos]
  · simp
  · exact ⟨by omega, by omega, by rw [hs.c]; exact hs.p, by rw [hkk, hs.c]⟩

/-- A region that has a call in it that writes into an own list. -/
theorem go_regionM {i : Nat} {l : List Oper} (h : evOpsM P l l nx ⟨env, hp, nx, n⟩ K) : evG E P (.region i l.toArray false) K ⟨env, hp, nx, n⟩ := .inr h

def kOpsM (P : Program) (all rest : List Oper) (id : Nat) (K : X → St → Prop) : X → St → Prop
  | .normal, st => evOpsM P all rest id st K
  | x, st => K x st
theorem goM_op {all rest : List Oper} {dst : Option Tmp} {op : Op} {ty : TypeId} {pos : String} {af : Array Edge} (h : evOp P op id dst ⟨env, hp, nx, n⟩ (kOpsM P all rest (id + 32) K)) :
    evOpsM P all ({ dst := dst, op := op, type := ty, pos := pos, after := af, guard := none } :: rest) id ⟨env, hp, nx, n⟩ K := .inl (evOp_mono (fun x st hx => by cases x <;> exact hx) h)
theorem goM_next {all rest : List Oper} (h : evOpsM P all rest id ⟨env, hp, nx, n⟩ K) : kOpsM P all rest id K .normal ⟨env, hp, nx, n⟩ := h
theorem goM_nil {all : List Oper} (h : K .normal ⟨env, hp, id, n⟩) : evOpsM P all [] id ⟨env, hp, nx, n⟩ K := h
theorem goM_call {all rest : List Oper} {dst : Option Tmp} {ty : TypeId} {pos : String} {af : Array Edge} {args : List Operand} {ts : Array TypeId} {g : FuncId} {ds args' : List D} {b : Nat} {blk blk' : Blk} {r r' : D} (ha : args.map (evalD env) = ds)
    (hb : lkH hp b = some blk) (hs : scalR blk.rows = true) (hin : inL b ds = some args') (hos : hasOs b ds = true)
    (hc : ContractM P g args' blk r blk') (hr : outR b r = r') (hd : okDst n dst = true) (h : evOpsM P all rest (id + 32) ⟨putE dst r' env, updH b blk' hp, nx, n⟩ K) :
    evOpsM P all ({ dst := dst, op := .call { callee := .value (.func g), args := args.toArray, argTypes := ts }, type := ty, pos := pos, after := af, guard := none } :: rest) id ⟨env, hp, nx, n⟩ K := by
  subst ha hr
  refine .inr ⟨rfl, ?_⟩
  exact ⟨b, blk, args', r, blk', hb, hs, by simpa using hin, by simpa using hos, hc, hd, h⟩
end
end Go.Pv

/- The least and the greatest of three. -/
namespace Go.Pv
section
variable {P : Program} {K : X → St → Prop} {env : Env} {hp : Hp} {nx n id : Nat} {s : Tmp} {x y z : Operand}
theorem go_min3 {k k' k2 : IntKind} {a b c : Int} {ts : Array TypeId} (h1 : evalD env x = .int k a) (h2 : evalD env y = .int k' b) (h3 : evalD env z = .int k2 c) (hd : okDst n (some s) = true) (hk : K .normal ⟨(s, .int k (min (min a b) c)) :: env, hp, nx, n⟩) : evOp P (.call { callee := .builtin .min, args := #[x, y, z], argTypes := ts }) id (some s) ⟨env, hp, nx, n⟩ K := by
  have h := evOp_min (P := P) (K := K) (env := env) (hp := hp) (nx := nx) (n := n) (id := id) (dst := some s) (x := x) (xs := [y, z]) (ts := ts)
  rw [show (#[x, y, z] : Array Operand) = (x :: [y, z]).toArray from rfl, h]
  refine ⟨.int k (min (min a b) c), ?_, hd, hk⟩
  simp only [List.map_cons, List.map_nil, foldD, h1, h2, h3, min2D, Option.bind_some, Option.some.injEq, D.int.injEq, true_and]
  split <;> split <;> omega
theorem go_max3 {k k' k2 : IntKind} {a b c : Int} {ts : Array TypeId} (h1 : evalD env x = .int k a) (h2 : evalD env y = .int k' b) (h3 : evalD env z = .int k2 c) (hd : okDst n (some s) = true) (hk : K .normal ⟨(s, .int k (max (max a b) c)) :: env, hp, nx, n⟩) : evOp P (.call { callee := .builtin .max, args := #[x, y, z], argTypes := ts }) id (some s) ⟨env, hp, nx, n⟩ K := by
  have h := evOp_max (P := P) (K := K) (env := env) (hp := hp) (nx := nx) (n := n) (id := id) (dst := some s) (x := x) (xs := [y, z]) (ts := ts)
  rw [show (#[x, y, z] : Array Operand) = (x :: [y, z]).toArray from rfl, h]
  refine ⟨.int k (max (max a b) c), ?_, hd, hk⟩
  simp only [List.map_cons, List.map_nil, foldD, h1, h2, h3, max2D, Option.bind_some, Option.some.injEq, D.int.injEq, true_and]
  split <;> split <;> omega
end
end Go.Pv
namespace Go.Pv
section
variable {P : Program} {K : X → St → Prop} {env : Env} {hp : Hp} {nx n id : Nat} {s : Tmp} {x : Operand} {t t' : TypeId}
/-- A number, made an int. -/
theorem go_conv64 {k0 k : IntKind} {a : Int} [h0 : TInt P t k0] [h1 : TInt P t' .i64] (h : evalD env x = .int k a) (hd : okDst n (some s) = true) (hr : -9223372036854775808 ≤ a ∧ a ≤ 9223372036854775807) (hk : K .normal ⟨(s, .int .i64 a) :: env, hp, nx, n⟩) : evOp P (.convert t t' x) id (some s) ⟨env, hp, nx, n⟩ K := by
  rw [evOp_convert]
  refine ⟨.int .i64 a, ?_, hd, hk⟩
  rw [h]
  simp only [convD, h1.h, h0.h, Option.isSome_some, if_true]
  rw [wrap64 hr]
end
end Go.Pv

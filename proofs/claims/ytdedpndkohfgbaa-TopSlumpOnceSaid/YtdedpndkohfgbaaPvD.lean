import Derived.Test.YtdedpndkohfgbaaPvC
/- Part of the proofs over Ytdedpndkohfgbaa: PwJ. -/
set_option linter.unusedVariables false
set_option linter.unusedSimpArgs false
set_option linter.unnecessarySimpa false
/- Calls with several results; division. -/
namespace Go.Pv

/-- Results that lead to no memory. -/
def plainE : D → Bool
  | .agg cs => cs.all scal1
  | d => scal1 d
def plainR : D → Bool
  | .tup ds => ds.all plainE
  | d => plainE d

theorem plain_adL : ∀ {cs : List D} {n : Nat}, cs.all scal1 = true → adL n cs = (cs, [])
  | [], _, _ => rfl
  | c :: cs, n, h => by
    simp only [List.all_cons, Bool.and_eq_true] at h
    have hc : adC n c = (c, []) := by cases c <;> first | rfl | (exact absurd h.1 (by simp [scal1]))
    simp only [adL, hc, plain_adL h.2, List.nil_append]

theorem plain_adE {d : D} {n : Nat} (h : plainE d = true) : adE n d = (d, []) := by
  cases d with
  | agg cs => simp only [adE, plain_adL (cs := cs) h]
  | _ => first | rfl | (exact absurd h (by simp [plainE, scal1]))

theorem plain_adT : ∀ {ds : List D} {n : Nat}, ds.all plainE = true → adT n ds = (ds, [])
  | [], _, _ => rfl
  | d :: ds, n, h => by
    simp only [List.all_cons, Bool.and_eq_true] at h
    simp only [adT, plain_adE h.1, plain_adT h.2, List.nil_append]

theorem plain_reflC {d : D} (h : scal1 d = true) : reflC d = true := by
  cases d <;> first | (cases h; done) | rfl
theorem plain_reflE {d : D} (h : plainE d = true) : reflE d = true := by
  cases d with
  | agg cs =>
    simp only [plainE, List.all_eq_true] at h
    simp only [reflE, List.all_eq_true]
    exact fun c hc => plain_reflC (h c hc)
  | _ => first | rfl | (exact absurd h (by simp [plainE, scal1]))

theorem plain_cases {d : D} (h : plainR d = true) : (∃ ds, d = .tup ds ∧ ds.all plainE = true) ∨ (plainE d = true ∧ (∀ n, adopt n d = adE n d) ∧ refless d = reflE d) := by
  cases d <;> first | exact .inl ⟨_, rfl, h⟩ | exact .inr ⟨h, fun _ => rfl, rfl⟩

theorem plain_adopt {d : D} {n : Nat} (h : plainR d = true) : adopt n d = (d, []) := by
  rcases plain_cases h with ⟨ds, rfl, h⟩ | ⟨h, h2, _⟩
  · simp only [adopt, plain_adT (ds := ds) h]
  · rw [h2]; exact plain_adE h

theorem plain_refless {d : D} (h : plainR d = true) : refless d = true := by
  rcases plain_cases h with ⟨ds, rfl, h1⟩ | ⟨h, _, h2⟩
  · rw [List.all_eq_true] at h1
    simp only [refless, List.all_eq_true]
    exact fun c hc => plain_reflE (h1 c hc)
  · rw [h2]; exact plain_reflE h

class TEq (P : Program) (t : TypeId) (ks : outParam (List Kd)) : Prop where h : eqOK P t = some ks
class TArr (P : Program) (t : TypeId) (len : outParam Nat) (k : outParam Nat) : Prop where h : ∃ e, P.underlying t = some (.array len e) ∧ P.cellsOf e = k ∧ 0 < k

section
variable {P : Program} {K : X → St → Prop} {env : Env} {hp : Hp} {nx n id : Nat} {s : Tmp} {x y f : Operand} {t t' : TypeId}

theorem go_fn_plain {args : List Operand} {ts : Array TypeId} {g : FuncId} {args' : List D} {r : D} (hp' : purL (lkH hp) 64 (args.map (evalD env)) = some args') (hc : Contract P g args' (.ret r)) (hr : plainR r = true) (hw : widR r ≤ 32) (hd : okDst n (some s) = true)
    (h : K .normal ⟨(s, r) :: env, hp, nx, n⟩) : evOp P (.call { callee := .value (.func g), args := args.toArray, argTypes := ts }) id (some s) ⟨env, hp, nx, n⟩ K :=
  go_call_fn hp' hc (by rw [plain_refless hr, Bool.or_true]) hw hd (by rw [plain_adopt hr]; exact h)

theorem tdiv_bound {a b : Int} (h : 0 ≤ a) (hb : 0 < b) : a.tdiv b = a / b ∧ 0 ≤ a / b ∧ a / b ≤ a := by
  refine ⟨Int.tdiv_eq_ediv_of_nonneg h, Int.ediv_nonneg h (by omega), ?_⟩
  exact Int.ediv_le_self b h

theorem go_quo_pos {a b : Int} (h1 : evalD env x = .int .i64 a) (h2 : evalD env y = .int .i64 b) (hd : okDst n (some s) = true) (hr : 0 ≤ a ∧ 0 < b ∧ a ≤ 9223372036854775807) (hk : K .normal ⟨(s, (.int .i64 (a / b))) :: env, hp, nx, n⟩) :
    evOp P (.binOp .quo t x y t') id (some s) ⟨env, hp, nx, n⟩ K := by
  obtain ⟨e1, e2, e3⟩ := tdiv_bound hr.1 hr.2.1
  exact go_quo h1 h2 hd (by omega) (by rw [e1]; omega) (by rw [e1]; exact hk)
theorem go_rem_pos {a b : Int} (h1 : evalD env x = .int .i64 a) (h2 : evalD env y = .int .i64 b) (hd : okDst n (some s) = true) (hr : 0 ≤ a ∧ 0 < b) (hk : K .normal ⟨(s, (.int .i64 (a % b))) :: env, hp, nx, n⟩) :
    evOp P (.binOp .rem t x y t') id (some s) ⟨env, hp, nx, n⟩ K := go_rem h1 h2 hd (by omega) (by rw [Int.tmod_eq_emod_of_nonneg hr.1]; exact hk)

theorem tdiv_abs {a b : Int} (hb : b ≠ 0) (h : -9223372036854775807 ≤ a ∧ a ≤ 9223372036854775807) : -9223372036854775808 ≤ a.tdiv b ∧ a.tdiv b ≤ 9223372036854775807 := by
  have h1 : (a.tdiv b).natAbs ≤ a.natAbs := by rw [Int.natAbs_tdiv]; exact Nat.div_le_self _ _
  omega

theorem go_quo_any {a b : Int} (h1 : evalD env x = .int .i64 a) (h2 : evalD env y = .int .i64 b) (hd : okDst n (some s) = true) (hb : b ≠ 0) (hr : -9223372036854775807 ≤ a ∧ a ≤ 9223372036854775807) (hk : K .normal ⟨(s, (.int .i64 (a.tdiv b))) :: env, hp, nx, n⟩) :
    evOp P (.binOp .quo t x y t') id (some s) ⟨env, hp, nx, n⟩ K := go_quo h1 h2 hd hb (tdiv_abs hb hr) hk

theorem go_bs0 {e k : Nat} [hs : TSlice P t e k] (hd : okDst n (some s) = true) (hk : K .normal ⟨(s, .os id 0 0) :: env, (id, ⟨0, true, []⟩) :: hp, nx, n⟩) : evOp P (.buildSlice t 0 #[]) id (some s) ⟨env, hp, nx, n⟩ K := by
  have h1 : op1 P (evalD env) (.buildSlice t 0 #[]) = some (false, ⟨0, true, []⟩) := by
    simp only [op1, hs.u, if_true]
    rw [if_pos ⟨rfl, by rw [hs.c]; exact hs.p⟩]
  unfold evOp
  simp only [op0, h1]
  exact ⟨hd, hk⟩

theorem go_bs1 {e k : Nat} {z v : D} {cs : List D} {fl : Bool} [hs : TSlice P t e k] [hz : TZero P e z] (h : evalD env x = v) (hkn : known v = true) (hcs : cellsD v = cs) (hzl : (cellsD z).length = k) (hl : cs.length = k) (hfl : cs.all lite = fl) (hsm : k ≤ 16777216) (hd : okDst n (some s) = true)
    (hk : K .normal ⟨(s, .os id 0 1) :: env, (id, ⟨k, fl, [cs]⟩) :: hp, nx, n⟩) : evOp P (.buildSlice t 1 #[(0, x)]) id (some s) ⟨env, hp, nx, n⟩ K := by
  subst h hcs hfl
  have h1 : op1 P (evalD env) (.buildSlice t 1 #[(0, x)]) = some (false, ⟨k, (cellsD (evalD env x)).all lite, [cellsD (evalD env x)]⟩) := by
    simp only [op1, hs.u, hz.h, Option.bind_some]
    rw [if_neg (by decide), if_pos ⟨hz.k, by rw [hzl, hs.c], by rw [hs.c]; exact hs.p, by rw [hs.c]; omega⟩]
    simp only [List.map_cons, List.map_nil, fillRows, List.replicate, List.length_cons, List.length_nil]
    rw [if_pos ⟨hkn, by rw [hl, hs.c], by omega⟩]
    simp [hs.c, flatRows]
  unfold evOp
  simp only [op0, h1]
  exact ⟨hd, hk⟩

theorem go_bs2 {e k : Nat} {z v v' : D} {cs cs' : List D} {fl : Bool} [hs : TSlice P t e k] [hz : TZero P e z] (h : evalD env x = v) (h' : evalD env y = v') (hkn : known v = true) (hkn' : known v' = true) (hcs : cellsD v = cs) (hcs' : cellsD v' = cs') (hzl : (cellsD z).length = k) (hl : cs.length = k) (hl' : cs'.length = k)
    (hfl : (cs.all lite && cs'.all lite) = fl) (hsm : k ≤ 1000000) (hd : okDst n (some s) = true)
    (hk : K .normal ⟨(s, .os id 0 2) :: env, (id, ⟨k, fl, [cs, cs']⟩) :: hp, nx, n⟩) : evOp P (.buildSlice t 2 #[(0, x), (1, y)]) id (some s) ⟨env, hp, nx, n⟩ K := by
  subst h hcs h' hcs' hfl
  have h1 : op1 P (evalD env) (.buildSlice t 2 #[(0, x), (1, y)]) = some (false, ⟨k, (cellsD (evalD env x)).all lite && (cellsD (evalD env y)).all lite, [cellsD (evalD env x), cellsD (evalD env y)]⟩) := by
    simp only [op1, hs.u, hz.h, Option.bind_some]
    rw [if_neg (by decide), if_pos ⟨hz.k, by rw [hzl, hs.c], by rw [hs.c]; exact hs.p, by rw [hs.c]; omega⟩]
    simp only [List.map_cons, List.map_nil, fillRows, List.replicate, List.length_cons, List.length_nil, List.length_set]
    rw [if_pos ⟨hkn, by rw [hl, hs.c], by omega⟩, if_pos ⟨hkn', by rw [hl', hs.c], by omega⟩]
    simp [hs.c, flatRows]
  unfold evOp
  simp only [op0, h1]
  exact ⟨hd, hk⟩

theorem go_bs1_int {e : Nat} {z : D} {k : IntKind} {a : Int} [hs : TSlice P t e 1] [hz : TZero P e z] (h : evalD env x = .int k a) (hzl : (cellsD z).length = 1) (hd : okDst n (some s) = true)
    (hk : K .normal ⟨(s, .os id 0 1) :: env, (id, ⟨1, true, [[.int k a]]⟩) :: hp, nx, n⟩) : evOp P (.buildSlice t 1 #[(0, x)]) id (some s) ⟨env, hp, nx, n⟩ K := go_bs1 h rfl rfl hzl rfl rfl (by omega) hd hk
theorem go_bs1_agg {e k : Nat} {z : D} {cs : List D} {fl : Bool} [hs : TSlice P t e k] [hz : TZero P e z] (h : evalD env x = .agg cs) (hzl : (cellsD z).length = k) (hl : cs.length = k) (hfl : cs.all lite = fl) (hsm : Nat.ble k 16777216 = true) (hd : okDst n (some s) = true)
    (hk : K .normal ⟨(s, .os id 0 1) :: env, (id, ⟨k, fl, [cs]⟩) :: hp, nx, n⟩) : evOp P (.buildSlice t 1 #[(0, x)]) id (some s) ⟨env, hp, nx, n⟩ K := go_bs1 h rfl rfl hzl hl hfl (Nat.le_of_ble_eq_true hsm) hd hk
theorem go_bs2_int {e : Nat} {z : D} {k k' : IntKind} {a a' : Int} [hs : TSlice P t e 1] [hz : TZero P e z] (h : evalD env x = .int k a) (h' : evalD env y = .int k' a') (hzl : (cellsD z).length = 1) (hd : okDst n (some s) = true)
    (hk : K .normal ⟨(s, .os id 0 2) :: env, (id, ⟨1, true, [[.int k a], [.int k' a']]⟩) :: hp, nx, n⟩) : evOp P (.buildSlice t 2 #[(0, x), (1, y)]) id (some s) ⟨env, hp, nx, n⟩ K := go_bs2 h h' rfl rfl rfl rfl hzl rfl rfl rfl (by omega) hd hk
theorem go_bs2_agg {e k : Nat} {z : D} {cs cs' : List D} {fl : Bool} [hs : TSlice P t e k] [hz : TZero P e z] (h : evalD env x = .agg cs) (h' : evalD env y = .agg cs') (hzl : (cellsD z).length = k) (hl : cs.length = k) (hl' : cs'.length = k) (hfl : (cs.all lite && cs'.all lite) = fl) (hsm : Nat.ble k 1000000 = true) (hd : okDst n (some s) = true)
    (hk : K .normal ⟨(s, .os id 0 2) :: env, (id, ⟨k, fl, [cs, cs']⟩) :: hp, nx, n⟩) : evOp P (.buildSlice t 2 #[(0, x), (1, y)]) id (some s) ⟨env, hp, nx, n⟩ K := go_bs2 h h' rfl rfl rfl rfl hzl hl hl' hfl (Nat.le_of_ble_eq_true hsm) hd hk

theorem pur_scal {h : Nat → Option Blk} {m : Nat} {d : D} (hs : scal1 d = true) : pur h (m + 1) d = some d := by
  cases d <;> first | (cases hs; done) | rfl
theorem purL_scal {h : Nat → Option Blk} : ∀ {cs : List D} {m : Nat}, cs.length < m → cs.all scal1 = true → purL h m cs = some cs
  | [], m + 1, _, _ => rfl
  | c :: cs, m + 2, hm, hs => by
    simp only [List.all_cons, Bool.and_eq_true] at hs
    simp only [purL, pur_scal (m := m) hs.1, purL_scal (cs := cs) (m := m + 1) (by simp at hm; omega) hs.2]
    rfl
theorem pur_plain {h : Nat → Option Blk} {d : D} (hs : plainE d = true) (hl : Nat.ble (widE d) 60 = true) : pur h 64 d = some d := by
  cases d with
  | agg cs =>
    have : cs.length ≤ 60 := Nat.le_of_ble_eq_true hl
    show (purL h 63 cs).map D.agg = _
    rw [purL_scal (by omega) hs]
    rfl
  | _ => exact pur_scal (m := 63) hs

theorem fin_tup2 {r1 r2 : ResultVar} {d1 d2 : D} (h1 : resD P ⟨env, hp, nx, n⟩ r1 = some d1) (h2 : resD P ⟨env, hp, nx, n⟩ r2 = some d2) (p1 : (plainE d1 && Nat.ble (widE d1) 60) = true) (p2 : (plainE d2 && Nat.ble (widE d2) 60) = true) : Fin P [r1, r2] ⟨env, hp, nx, n⟩ (.tup [d1, d2]) := by
  simp only [Bool.and_eq_true] at p1 p2
  exact fin2 (ds := [d1, d2]) (by simp [h1, h2]) ⟨pur_plain p1.1 p1.2, pur_plain p2.1 p2.2, trivial⟩ (by simp)
theorem fin_tup3 {r1 r2 r3 : ResultVar} {d1 d2 d3 : D} (h1 : resD P ⟨env, hp, nx, n⟩ r1 = some d1) (h2 : resD P ⟨env, hp, nx, n⟩ r2 = some d2) (h3 : resD P ⟨env, hp, nx, n⟩ r3 = some d3) (p1 : (plainE d1 && Nat.ble (widE d1) 60) = true) (p2 : (plainE d2 && Nat.ble (widE d2) 60) = true) (p3 : (plainE d3 && Nat.ble (widE d3) 60) = true) :
    Fin P [r1, r2, r3] ⟨env, hp, nx, n⟩ (.tup [d1, d2, d3]) := by
  simp only [Bool.and_eq_true] at p1 p2 p3
  exact fin2 (ds := [d1, d2, d3]) (by simp [h1, h2, h3]) ⟨pur_plain p1.1 p1.2, pur_plain p2.1 p2.2, pur_plain p3.1 p3.2, trivial⟩ (by simp)

theorem end_t2 {r1 r2 : ResultVar} {d1 d2 r : D} (h1 : resD P ⟨env, hp, nx, n⟩ r1 = some d1) (h2 : resD P ⟨env, hp, nx, n⟩ r2 = some d2) (p1 : (plainE d1 && Nat.ble (widE d1) 60) = true) (p2 : (plainE d2 && Nat.ble (widE d2) 60) = true) (e : D.tup [d1, d2] = r) : finK P [r1, r2] (.ret r) .ret ⟨env, hp, nx, n⟩ := e ▸ finK_ret (fin_tup2 h1 h2 p1 p2)
theorem end_t2' {r1 r2 : ResultVar} {d1 d2 r : D} (h1 : resD P ⟨env, hp, nx, n⟩ r1 = some d1) (h2 : resD P ⟨env, hp, nx, n⟩ r2 = some d2) (p1 : (plainE d1 && Nat.ble (widE d1) 60) = true) (p2 : (plainE d2 && Nat.ble (widE d2) 60) = true) (e : D.tup [d1, d2] = r) : finK P [r1, r2] (.ret r) .normal ⟨env, hp, nx, n⟩ := e ▸ finK_normal (fin_tup2 h1 h2 p1 p2)
theorem end_t3 {r1 r2 r3 : ResultVar} {d1 d2 d3 r : D} (h1 : resD P ⟨env, hp, nx, n⟩ r1 = some d1) (h2 : resD P ⟨env, hp, nx, n⟩ r2 = some d2) (h3 : resD P ⟨env, hp, nx, n⟩ r3 = some d3) (p1 : (plainE d1 && Nat.ble (widE d1) 60) = true) (p2 : (plainE d2 && Nat.ble (widE d2) 60) = true) (p3 : (plainE d3 && Nat.ble (widE d3) 60) = true)
    (e : D.tup [d1, d2, d3] = r) : finK P [r1, r2, r3] (.ret r) .ret ⟨env, hp, nx, n⟩ := e ▸ finK_ret (fin_tup3 h1 h2 h3 p1 p2 p3)
theorem end_t3' {r1 r2 r3 : ResultVar} {d1 d2 d3 r : D} (h1 : resD P ⟨env, hp, nx, n⟩ r1 = some d1) (h2 : resD P ⟨env, hp, nx, n⟩ r2 = some d2) (h3 : resD P ⟨env, hp, nx, n⟩ r3 = some d3) (p1 : (plainE d1 && Nat.ble (widE d1) 60) = true) (p2 : (plainE d2 && Nat.ble (widE d2) 60) = true) (p3 : (plainE d3 && Nat.ble (widE d3) 60) = true)
    (e : D.tup [d1, d2, d3] = r) : finK P [r1, r2, r3] (.ret r) .normal ⟨env, hp, nx, n⟩ := e ▸ finK_normal (fin_tup3 h1 h2 h3 p1 p2 p3)
/-- A struct of single values. -/
theorem end_agg {rv : ResultVar} {cs : List D} {r : D} (h : resD P ⟨env, hp, nx, n⟩ rv = some (.agg cs)) (hs : (cs.all scal1 && Nat.ble cs.length 60) = true) (e : D.agg cs = r) : finK P [rv] (.ret r) .ret ⟨env, hp, nx, n⟩ := by
  simp only [Bool.and_eq_true] at hs
  exact e ▸ finK_ret (fin1 h (pur_plain (d := .agg cs) hs.1 hs.2) rfl)
theorem end_agg' {rv : ResultVar} {cs : List D} {r : D} (h : resD P ⟨env, hp, nx, n⟩ rv = some (.agg cs)) (hs : (cs.all scal1 && Nat.ble cs.length 60) = true) (e : D.agg cs = r) : finK P [rv] (.ret r) .normal ⟨env, hp, nx, n⟩ := by
  simp only [Bool.and_eq_true] at hs
  exact e ▸ finK_normal (fin1 h (pur_plain (d := .agg cs) hs.1 hs.2) rfl)

/-- A whole variable is read. -/
theorem go_ld_agg {b k : Nat} {fl : Bool} {row : List D} [hs : TSh P t (.many k)] (h : evalD env x = .op b 0 0) (hb : lkH hp b = some ⟨k, fl, [row]⟩) (hl : row.length = k) (hd : okDst n (some s) = true) (hk : K .normal ⟨(s, .agg row) :: env, hp, nx, n⟩) : evOp P (.load t x) id (some s) ⟨env, hp, nx, n⟩ K := by
  refine go_load_own (sh' := .many k) h hb ?_ hd hk
  simp only [fromCells, getRow, List.getD_cons_zero, List.drop_zero]
  rw [if_pos (by omega), ← hl, List.take_length]
theorem go_ld_one {b : Nat} {fl : Bool} {c : D} [hs : TSh P t .one] (h : evalD env x = .op b 0 0) (hb : lkH hp b = some ⟨1, fl, [[c]]⟩) (hd : okDst n (some s) = true) (hk : K .normal ⟨(s, c) :: env, hp, nx, n⟩) : evOp P (.load t x) id (some s) ⟨env, hp, nx, n⟩ K :=
  go_load_own (sh' := .one) h hb rfl hd hk

/-- Structs built from single values, or from one struct. -/
theorem go_bd2_int {zs : List D} {k k' : IntKind} {a b : Int} [hl : TLay P t zs [(0, 1), (1, 1)]] (h : evalD env x = .int k a) (h' : evalD env y = .int k' b) (hz : zs.length = 2) (hd : okDst n (some s) = true) (hk : K .normal ⟨(s, .agg [.int k a, .int k' b]) :: env, hp, nx, n⟩) :
    evOp P (.build t #[(0, x), (1, y)]) id (some s) ⟨env, hp, nx, n⟩ K := by
  obtain ⟨z0, z1, rfl⟩ : ∃ z0 z1, zs = [z0, z1] := by
    match zs, hz with
    | [z0, z1], _ => exact ⟨z0, z1, rfl⟩
  refine go_build (parts := [(0, x), (1, y)]) ?_ hd hk
  simp only [List.map_cons, List.map_nil, h, h']
  rfl
theorem go_bd1_agg {zs cs : List D} {k : Nat} [hl : TLay P t zs [(0, k)]] (h : evalD env x = .agg cs) (hz : zs.length = k) (hc : cs.length = k) (hd : okDst n (some s) = true) (hk : K .normal ⟨(s, .agg cs) :: env, hp, nx, n⟩) :
    evOp P (.build t #[(0, x)]) id (some s) ⟨env, hp, nx, n⟩ K := by
  subst hc
  have hs : spliceL zs 0 cs = cs := by simp [spliceL, hz]
  refine go_build (parts := [(0, x)]) ?_ hd hk
  simp only [List.map_cons, List.map_nil, h]
  show (if known (.agg cs) = true ∧ cs.length = cs.length ∧ 0 + cs.length ≤ zs.length then fillD _ (spliceL zs 0 cs) [] else none) = some cs
  rw [if_pos ⟨rfl, rfl, by omega⟩, hs]
  rfl

theorem go_index_nat {α : Type} {e : TypeId} {k : Nat} {l : List α} {f : α → List D} {ik : IntKind} {j : Int} {i : Nat} [hs : TSlice P t e k] (h : evalD env x = .sl (l.map f)) (h2 : evalD env y = .int ik j) (hj : j = (i : Int)) (hk : ∀ a, (f a).length = k) (hd : okDst n (some s) = true)
    (hi : i < l.length) (hc : ∀ (hlt : i < l.length), K .normal ⟨(s, (.ptr (f l[i]))) :: env, hp, nx, n⟩) : evOp P (.indexAddr t x y) id (some s) ⟨env, hp, nx, n⟩ K := by
  subst hj
  exact go_index h h2 hk hd (by omega) fun hlt => by simpa only [Int.toNat_natCast] using hc hi

theorem go_ld_ptr {cs : List D} {k : Nat} [hs : TSh P t (.many k)] (h : evalD env x = .ptr cs) (hl : cs.length = k) (hd : okDst n (some s) = true) (hk : K .normal ⟨(s, .agg cs) :: env, hp, nx, n⟩) : evOp P (.load t x) id (some s) ⟨env, hp, nx, n⟩ K := by
  refine go_load (sh' := .many k) h ?_ hd hk
  simp only [fromCells]
  rw [if_pos (by omega), ← hl, List.take_length]

/-- Rows of single values. -/
def ScalF {α : Type} (f : α → List D) (k : Nat) : Prop := ∀ a, (f a).length = k ∧ (f a).all scal1 = true

theorem scal1_lite {d : D} (h : scal1 d = true) : lite d = true := by cases d <;> first | (cases h; done) | rfl
theorem scal1_cell1 {d : D} (h : scal1 d = true) (hu : known d = true) (hk : d ≠ .skip) : cell1 d = true := by cases d <;> first | (cases h; done) | (cases hu; done) | rfl | exact (hk rfl).elim
theorem scal1_ment {d : D} {b : Nat} (h : scal1 d = true) : ment b d = false := by cases d <;> first | (cases h; done) | rfl
theorem flat_map {α : Type} {f : α → List D} {k : Nat} (hf : ScalF f k) (l : List α) : flatRows (l.map f) = true := by
  simp only [flatRows, List.all_map, List.all_eq_true, Function.comp]
  exact fun a _ c hc => scal1_lite (List.all_eq_true.1 (hf a).2 c hc)
theorem scalR_map {α : Type} {f : α → List D} {k : Nat} (hf : ScalF f k) (l : List α) : scalR (l.map f) = true := by
  simp only [scalR, List.all_map, List.all_eq_true, Function.comp]
  exact fun a _ c hc => List.all_eq_true.1 (hf a).2 c hc

/-- A list of one's own, one element longer. -/
theorem go_app_map {α : Type} {f : α → List D} {e k b b2 len : Nat} {l : List α} {a : α} {fl2 : Bool} [hs : TSlice P t e k] (hf : ScalF f k) (h1 : evalD env x = .os b 0 len) (h2 : evalD env y = .os b2 0 1) (hb : lkH hp b = some ⟨k, true, l.map f⟩) (hlen : l.length = len) (hb2 : lkH hp b2 = some ⟨k, fl2, [f a]⟩)
    (hc1 : ((f a).all cell1) = true) (hz : zeroOK P e = true) (hby : Nat.ble (P.bytesOf e) 4096 = true) (hn : len ≤ 1000000000) (hd : okDst n (some s) = true)
    (hk : K .normal ⟨(s, .os b 0 (len + 1)) :: purgeE b env, (b, ⟨k, true, (l ++ [a]).map f⟩) :: purgeH b hp, nx, n⟩) : evOp P (.call { callee := .builtin .append, args := #[x, y], argTypes := #[t, t] }) id (some s) ⟨env, hp, nx, n⟩ K := by
  have hby' : P.bytesOf e ≤ 4096 := Nat.le_of_ble_eq_true hby
  have hap : appendD P (lkH hp) t (evalD env x) (evalD env y) = some (some b, ⟨k, true, (l ++ [a]).map f⟩) := by
    have hx : contentD (lkH hp) (.os b2 0 1) = some [f a] := by simp [contentD, hb2]
    have ho : contentD (lkH hp) (.os b 0 len) = some (l.map f) := by
      simp only [contentD, hb, Option.bind_some]
      rw [if_pos (by simp [hlen])]
      rw [List.drop_zero, List.take_of_length_le (by simp [hlen])]
    unfold appendD
    rw [hs.u, h1, h2]
    simp only [hx, ho, Option.bind_some]
    have hmul : (len + 1) * P.bytesOf e ≤ 140737488355328 := by
      have := Nat.mul_le_mul (show len + 1 ≤ 1000000001 by omega) hby'
      omega
    rw [if_pos]
    · rw [hb]
      simp only [Option.bind_some]
      rw [if_pos]
      · have hft : flatRows [f a] = true := by
          have := flat_map hf [a]
          simpa using this
        simp [hs.c, hft]
      · refine ⟨.inl hs.c.symm, fun r hr c hc => ?_⟩
        have : ∃ a', r = f a' := by
          simp only [List.mem_append, List.mem_map, List.mem_singleton] at hr
          rcases hr with ⟨a', _, rfl⟩ | rfl
          · exact ⟨a', rfl⟩
          · exact ⟨a, rfl⟩
        obtain ⟨a', rfl⟩ := this
        exact scal1_ment (List.all_eq_true.1 (hf a').2 c hc)
    · refine ⟨by rw [hs.c]; exact hs.p, fun r hr => ?_, fun r hr c hc => ?_, by simp [hlen]; exact hmul, by simp [hlen]; omega, hz, by simp [kOK, hb2, hs.c]⟩
      · simp only [List.mem_singleton] at hr
        rw [hr, (hf a).1, hs.c]
      · simp only [List.mem_singleton] at hr
        subst hr
        exact List.all_eq_true.1 hc1 c hc
  refine go_append_on hap hd ?_
  have e : (⟨k, true, (l ++ [a]).map f⟩ : Blk).rows.length = len + 1 := by simp [hlen]
  rw [e]
  exact hk

/-- A call that returns a new list, or one and a single value. -/
theorem go_fn_fr {α : Type} {f : α → List D} {k : Nat} {l : List α} {args : List Operand} {ts : Array TypeId} {g : FuncId} {args' : List D} (hp' : purL (lkH hp) 64 (args.map (evalD env)) = some args') (hc : Contract P g args' (.ret (.fr k (l.map f)))) (hf : ScalF f k) (hd : okDst n (some s) = true)
    (h : K .normal ⟨(s, .os id 0 l.length) :: env, (id, ⟨k, true, l.map f⟩) :: hp, nx, n⟩) : evOp P (.call { callee := .value (.func g), args := args.toArray, argTypes := ts }) id (some s) ⟨env, hp, nx, n⟩ K := by
  refine go_call_fn hp' hc ?_ (by simp [widR, widE]) hd ?_
  · have : refless (.fr k (l.map f)) = true := scalR_map hf l
    rw [this, Bool.or_true]
  · have e : adopt id (.fr k (l.map f)) = (.os id 0 l.length, [(id, ⟨k, true, l.map f⟩)]) := by
      simp [adopt, adE, adC, flat_map hf]
    rw [e]
    exact h
theorem go_fn_fr2 {α : Type} {f : α → List D} {k : Nat} {l : List α} {d2 : D} {args : List Operand} {ts : Array TypeId} {g : FuncId} {args' : List D} (hp' : purL (lkH hp) 64 (args.map (evalD env)) = some args') (hc : Contract P g args' (.ret (.tup [.fr k (l.map f), d2]))) (hf : ScalF f k) (h2 : scal1 d2 = true) (hd : okDst n (some s) = true)
    (h : K .normal ⟨(s, .tup [.os id 0 l.length, d2]) :: env, (id, ⟨k, true, l.map f⟩) :: hp, nx, n⟩) : evOp P (.call { callee := .value (.func g), args := args.toArray, argTypes := ts }) id (some s) ⟨env, hp, nx, n⟩ K := by
  have hw : widE d2 = 1 := by cases d2 <;> first | (cases h2; done) | rfl
  have hr2 : reflE d2 = true := plain_reflE (by cases d2 <;> first | (cases h2; done) | rfl)
  have ha2 : ∀ m, adE m d2 = (d2, []) := fun m => plain_adE (by cases d2 <;> first | (cases h2; done) | rfl)
  refine go_call_fn hp' hc ?_ (by simp [widR, hw]; simp [widE]) hd ?_
  · have : refless (.tup [.fr k (l.map f), d2]) = true := by
      simp only [refless, List.all_cons, List.all_nil, Bool.and_true, hr2]
      exact scalR_map hf l
    rw [this, Bool.or_true]
  · have e : adopt id (.tup [.fr k (l.map f), d2]) = (.tup [.os id 0 l.length, d2], [(id, ⟨k, true, l.map f⟩)]) := by
      simp only [adopt, adT, ha2]
      simp [adE, adC, flat_map hf]
    rw [e]
    exact h

/-- A new list is returned; with a single value. -/
theorem end_fr {α : Type} {f : α → List D} {rv : ResultVar} {b k : Nat} {l l' : List α} (h : resD P ⟨env, hp, nx, n⟩ rv = some (.os b 0 l.length)) (hb : lkH hp b = some ⟨k, true, l.map f⟩) (e : l = l') : finK P [rv] (.ret (.fr k (l'.map f))) .ret ⟨env, hp, nx, n⟩ := by
  subst e
  exact finK_ret (fin1_fr (rows' := l.map f) (by simpa using h) hb (by simp))
theorem fin_fr2 {r1 r2 : ResultVar} {b k len : Nat} {rows : List (List D)} {d2 : D} (h1 : resD P ⟨env, hp, nx, n⟩ r1 = some (.os b 0 len)) (hlen : rows.length = len) (hb : lkH hp b = some ⟨k, true, rows⟩) (h2 : resD P ⟨env, hp, nx, n⟩ r2 = some d2) (hs : scal1 d2 = true) : Fin P [r1, r2] ⟨env, hp, nx, n⟩ (.tup [.fr k rows, d2]) :=
  .inl ⟨[.blk b, .pure], [.os b 0 len, d2], [.fr k rows, d2], by simp [h1, h2], by simp [frsOf], ⟨⟨⟨k, true, rows⟩, rows, by rw [hlen], hb, rfl, by simp⟩, pur_scal (m := 63) hs, trivial⟩, rfl, fun h => by simp at h⟩
theorem fin_nil2 {r1 r2 : ResultVar} {k : Nat} {d2 : D} (h1 : resD P ⟨env, hp, nx, n⟩ r1 = some .nilsl) (h2 : resD P ⟨env, hp, nx, n⟩ r2 = some d2) (hs : scal1 d2 = true) : Fin P [r1, r2] ⟨env, hp, nx, n⟩ (.tup [.fr k [], d2]) :=
  .inl ⟨[.nil, .pure], [.nilsl, d2], [.fr k [], d2], by simp [h1, h2], by simp [frsOf], ⟨⟨rfl, k, rfl⟩, pur_scal (m := 63) hs, trivial⟩, rfl, fun h => by simp at h⟩

theorem go_min {k k' : IntKind} {a b : Int} {ts : Array TypeId} (h1 : evalD env x = .int k a) (h2 : evalD env y = .int k' b) (hd : okDst n (some s) = true) (hk : K .normal ⟨(s, .int k (min a b)) :: env, hp, nx, n⟩) : evOp P (.call { callee := .builtin .min, args := #[x, y], argTypes := ts }) id (some s) ⟨env, hp, nx, n⟩ K := by
  have h := evOp_min (P := P) (K := K) (env := env) (hp := hp) (nx := nx) (n := n) (id := id) (dst := some s) (x := x) (xs := [y]) (ts := ts)
  rw [show (#[x, y] : Array Operand) = (x :: [y]).toArray from rfl, h]
  refine ⟨.int k (min a b), ?_, hd, hk⟩
  simp only [List.map_cons, List.map_nil, foldD, h1, h2, min2D, Option.bind_some, Option.some.injEq, D.int.injEq, true_and]
  omega
theorem go_max {k k' : IntKind} {a b : Int} {ts : Array TypeId} (h1 : evalD env x = .int k a) (h2 : evalD env y = .int k' b) (hd : okDst n (some s) = true) (hk : K .normal ⟨(s, .int k (max a b)) :: env, hp, nx, n⟩) : evOp P (.call { callee := .builtin .max, args := #[x, y], argTypes := ts }) id (some s) ⟨env, hp, nx, n⟩ K := by
  have h := evOp_max (P := P) (K := K) (env := env) (hp := hp) (nx := nx) (n := n) (id := id) (dst := some s) (x := x) (xs := [y]) (ts := ts)
  rw [show (#[x, y] : Array Operand) = (x :: [y]).toArray from rfl, h]
  refine ⟨.int k (max a b), ?_, hd, hk⟩
  simp only [List.map_cons, List.map_nil, foldD, h1, h2, max2D, Option.bind_some, Option.some.injEq, D.int.injEq, true_and]
  omega

/-- A struct of three values. -/
theorem go_bd3 {zs : List D} {d1 d2 d3 : D} {z : Operand} [hl : TLay P t zs [(0, 1), (1, 1), (2, 1)]] (h1 : evalD env x = d1) (h2 : evalD env y = d2) (h3 : evalD env z = d3) (hz : zs.length = 3) (p : (scal1 d1 && scal1 d2 && scal1 d3 && known d1 && known d2 && known d3) = true) (hd : okDst n (some s) = true) (hk : K .normal ⟨(s, .agg [d1, d2, d3]) :: env, hp, nx, n⟩) :
    evOp P (.build t #[(0, x), (1, y), (2, z)]) id (some s) ⟨env, hp, nx, n⟩ K := by
  obtain ⟨z0, z1, z2, rfl⟩ : ∃ z0 z1 z2, zs = [z0, z1, z2] := by
    match zs, hz with
    | [z0, z1, z2], _ => exact ⟨z0, z1, z2, rfl⟩
  simp only [Bool.and_eq_true] at p
  obtain ⟨⟨⟨⟨⟨p1, p2⟩, p3⟩, p4⟩, p5⟩, p6⟩ := p
  have hc : ∀ d, scal1 d = true → cellsD d = [d] := fun d h => by cases d <;> first | (cases h; done) | rfl
  refine go_build (parts := [(0, x), (1, y), (2, z)]) ?_ hd hk
  simp only [List.map_cons, List.map_nil, h1, h2, h3]
  simp only [fillD, List.getElem?_cons_zero, List.getElem?_cons_succ, hc _ p1, hc _ p2, hc _ p3, p4, p5, p6]
  rfl

theorem go_bd3_sii {zs : List D} {a : ByteArray} {k k' : IntKind} {b c : Int} {z : Operand} [hl : TLay P t zs [(0, 1), (1, 1), (2, 1)]] (h1 : evalD env x = .str a) (h2 : evalD env y = .int k b) (h3 : evalD env z = .int k' c) (hz : zs.length = 3) (hd : okDst n (some s) = true) (hk : K .normal ⟨(s, .agg [.str a, .int k b, .int k' c]) :: env, hp, nx, n⟩) :
    evOp P (.build t #[(0, x), (1, y), (2, z)]) id (some s) ⟨env, hp, nx, n⟩ K := go_bd3 h1 h2 h3 hz rfl hd hk
theorem go_bd3_iii {zs : List D} {k k' k2 : IntKind} {a b c : Int} {z : Operand} [hl : TLay P t zs [(0, 1), (1, 1), (2, 1)]] (h1 : evalD env x = .int k a) (h2 : evalD env y = .int k' b) (h3 : evalD env z = .int k2 c) (hz : zs.length = 3) (hd : okDst n (some s) = true) (hk : K .normal ⟨(s, .agg [.int k a, .int k' b, .int k2 c]) :: env, hp, nx, n⟩) :
    evOp P (.build t #[(0, x), (1, y), (2, z)]) id (some s) ⟨env, hp, nx, n⟩ K := go_bd3 h1 h2 h3 hz rfl hd hk

/-- Structs compared. -/
theorem go_neq_agg {ks : List Kd} {a b : List D} {q : Bool} [he : TEq P t ks] (h1 : evalD env x = .agg a) (h2 : evalD env y = .agg b) (hq : cellsEq ks a b = some q) (hd : okDst n (some s) = true) (hk : K .normal ⟨(s, .bool !q) :: env, hp, nx, n⟩) : evOp P (.binOp .neq t x y t') id (some s) ⟨env, hp, nx, n⟩ K :=
  go_bin (d := .bool !q) (by rw [h1, h2]; simp [binD, he.h, hq]) hd hk
theorem go_eql_agg {ks : List Kd} {a b : List D} {q : Bool} [he : TEq P t ks] (h1 : evalD env x = .agg a) (h2 : evalD env y = .agg b) (hq : cellsEq ks a b = some q) (hd : okDst n (some s) = true) (hk : K .normal ⟨(s, .bool q) :: env, hp, nx, n⟩) : evOp P (.binOp .eql t x y t') id (some s) ⟨env, hp, nx, n⟩ K :=
  go_bin (d := .bool q) (by rw [h1, h2]; simp [binD, he.h, hq]) hd hk

/-- An element of an array of one's own. -/
theorem go_index_arr {len k : Nat} {b row off : Nat} {blk : Blk} {ik : IntKind} {i : Int} [ha : TArr P t len k] (h : evalD env x = .op b row off) (h2 : evalD env y = .int ik i) (hb : lkH hp b = some blk) (hd : okDst n (some s) = true) (hi : 0 ≤ i ∧ i < len)
    (hk : K .normal ⟨(s, .op b row (off + i.toNat * k)) :: env, hp, nx, n⟩) : evOp P (.indexAddr t x y) id (some s) ⟨env, hp, nx, n⟩ K := by
  rw [evOp_indexAddr]
  refine ⟨.op b row (off + i.toNat * k), ?_, hd, hk⟩
  obtain ⟨e, hu, hc, hp0⟩ := ha.h
  rw [h, h2]
  simp only [indexAddrD, hu, hb]
  rw [if_pos ⟨hi.1, hi.2, by omega⟩, hc]

theorem pur_own {h : Nat → Option Blk} {b k len m : Nat} {rows : List (List D)} (hb : h b = some ⟨k, true, rows⟩) (hl : rows.length = len) : pur h (m + 1) (.os b 0 len) = some (.sl rows) := by
  simp only [pur, hb, Option.bind_some]
  rw [if_pos (by omega), List.drop_zero, List.take_of_length_le (by omega)]
  rfl
theorem pur2_own {b1 b2 k1 k2 n1 n2 : Nat} {r1 r2 : List (List D)} (h1 : evalD env x = .os b1 0 n1) (h2 : evalD env y = .os b2 0 n2) (hb1 : lkH hp b1 = some ⟨k1, true, r1⟩) (hb2 : lkH hp b2 = some ⟨k2, true, r2⟩) (hl1 : r1.length = n1) (hl2 : r2.length = n2) :
    purL (lkH hp) 64 ([x, y].map (evalD env)) = some [.sl r1, .sl r2] := by
  simp only [List.map_cons, List.map_nil, h1, h2, purL, pur_own (m := 62) hb1 hl1, pur_own (m := 61) hb2 hl2, Option.bind_some, Option.map_some]

end
end Go.Pv

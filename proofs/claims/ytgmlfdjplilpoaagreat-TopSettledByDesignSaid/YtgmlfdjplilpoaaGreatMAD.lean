import Derived.Test.YtgmlfdjplilpoaaGreatMAC
import GoSem.Core.Float
/- Part of the proofs over YtgmlfdjplilpoaaGreat: PwJ, PwK, PwL, PwM, PwN, PwO, PwP, PwQ, PwR, PwS, PwT, PwU, PvSq, PwV, PwW, PxC, PxD, PxE, PyB, PyC, PyD, PyE, PyF, PyG, PyH. -/
set_option linter.unusedVariables false
set_option linter.unusedSimpArgs false
set_option linter.unnecessarySimpa false
/- Calls with several results; division. -/
namespace Go.Pv

/-- Results that lead to no memory. -/
def plainE : D → Bool
  | .agg cs => cs.all scal1
  | d => scal1 d
def plainR : D → Bool
  | .tup ds => ds.all plainE
  | d => plainE d

theorem plain_adL : ∀ {cs : List D} {n : Nat}, cs.all scal1 = true → adL n cs = (cs, [])
  | [], _, _ => rfl
  | c :: cs, n, h => by
    simp only [List.all_cons, Bool.and_eq_true] at h
    have hc : adC n c = (c, []) := by cases c <;> first | rfl | (exact absurd h.1 (by simp [scal1]))
    simp only [adL, hc, plain_adL h.2, List.nil_append]

theorem plain_adE {d : D} {n : Nat} (h : plainE d = true) : adE n d = (d, []) := by
  cases d with
  | agg cs => simp only [adE, plain_adL (cs := cs) h]
  | _ => first | rfl | (exact absurd h (by simp [plainE, scal1]))

theorem plain_adT : ∀ {ds : List D} {n : Nat}, ds.all plainE = true → adT n ds = (ds, [])
  | [], _, _ => rfl
  | d :: ds, n, h => by
    simp only [List.all_cons, Bool.and_eq_true] at h
    simp only [adT, plain_adE h.1, plain_adT h.2, List.nil_append]

theorem plain_reflC {d : D} (h : scal1 d = true) : reflC d = true := by
  cases d <;> first | (cases h; done) | rfl
theorem plain_reflE {d : D} (h : plainE d = true) : reflE d = true := by
  cases d with
  | agg cs =>
    simp only [plainE, List.all_eq_true] at h
    simp only [reflE, List.all_eq_true]
    exact fun c hc => plain_reflC (h c hc)
  | _ => first | rfl | (exact absurd h (by simp [plainE, scal1]))

theorem plain_cases {d : D} (h : plainR d = true) : (∃ ds, d = .tup ds ∧ ds.all plainE = true) ∨ (plainE d = true ∧ (∀ n, adopt n d = adE n d) ∧ refless d = reflE d) := by
  cases d <;> first | exact .inl ⟨_, rfl, h⟩ | exact .inr ⟨h, fun _ => rfl, rfl⟩

theorem plain_adopt {d : D} {n : Nat} (h : plainR d = true) : adopt n d = (d, []) := by
  rcases plain_cases h with ⟨ds, rfl, h⟩ | ⟨h, h2, _⟩
  · simp only [adopt, plain_adT (ds := ds) h]
  · rw [h2]; exact plain_adE h

theorem plain_refless {d : D} (h : plainR d = true) : refless d = true := by
  rcases plain_cases h with ⟨ds, rfl, h1⟩ | ⟨h, _, h2⟩
  · rw [List.all_eq_true] at h1
    simp only [refless, List.all_eq_true]
    exact fun c hc => plain_reflE (h1 c hc)
  · rw [h2]; exact plain_reflE h

class TEq (P : Program) (t : TypeId) (ks : outParam (List Kd)) : Prop where h : eqOK P t = some ks
class TArr (P : Program) (t : TypeId) (len : outParam Nat) (k : outParam Nat) : Prop where h : ∃ e, P.underlying t = some (.array len e) ∧ P.cellsOf e = k ∧ 0 < k

section
variable {P : Program} {K : X → St → Prop} {env : Env} {hp : Hp} {nx n id : Nat} {s : Tmp} {x y f : Operand} {t t' : TypeId}

theorem go_fn_plain {args : List Operand} {ts : Array TypeId} {g : FuncId} {args' : List D} {r : D} (hp' : purL (lkH hp) 64 (args.map (evalD env)) = some args') (hc : Contract P g args' (.ret r)) (hr : plainR r = true) (hw : widR r ≤ 32) (hd : okDst n (some s) = true)
    (h : K .normal ⟨(s, r) :: env, hp, nx, n⟩) : evOp P (.call { callee := .value (.func g), args := args.toArray, argTypes := ts }) id (some s) ⟨env, hp, nx, n⟩ K :=
  go_call_fn hp' hc (by rw [plain_refless hr, Bool.or_true]) hw hd (by rw [plain_adopt hr]; exact h)

theorem tdiv_bound {a b : Int} (h : 0 ≤ a) (hb : 0 < b) : a.tdiv b = a / b ∧ 0 ≤ a / b ∧ a / b ≤ a := by
  refine ⟨Int.tdiv_eq_ediv_of_nonneg h, Int.ediv_nonneg h (by omega), ?_⟩
  exact Int.ediv_le_self b h

theorem go_quo_pos {a b : Int} (h1 : evalD env x = .int .i64 a) (h2 : evalD env y = .int .i64 b) (hd : okDst n (some s) = true) (hr : 0 ≤ a ∧ 0 < b ∧ a ≤ 9223372036854775807) (hk : K .normal ⟨(s, (.int .i64 (a / b))) :: env, hp, nx, n⟩) :
    evOp P (.binOp .quo t x y t') id (some s) ⟨env, hp, nx, n⟩ K := by
  obtain ⟨e1, e2, e3⟩ := tdiv_bound hr.1 hr.2.1
  exact go_quo h1 h2 hd (by omega) (by rw [e1]; omega) (by rw [e1]; exact hk)
theorem go_rem_pos {a b : Int} (h1 : evalD env x = .int .i64 a) (h2 : evalD env y = .int .i64 b) (hd : okDst n (some s) = true) (hr : 0 ≤ a ∧ 0 < b) (hk : K .normal ⟨(s, (.int .i64 (a % b))) :: env, hp, nx, n⟩) :
    evOp P (.binOp .rem t x y t') id (some s) ⟨env, hp, nx, n⟩ K := go_rem h1 h2 hd (by omega) (by rw [Int.tmod_eq_emod_of_nonneg hr.1]; exact hk)

theorem tdiv_abs {a b : Int} (hb : b ≠ 0) (h : -9223372036854775807 ≤ a ∧ a ≤ 9223372036854775807) : -9223372036854775808 ≤ a.tdiv b ∧ a.tdiv b ≤ 9223372036854775807 := by
  have h1 : (a.tdiv b).natAbs ≤ a.natAbs := by rw [Int.natAbs_tdiv]; exact Nat.div_le_self _ _
  omega

theorem go_quo_any {a b : Int} (h1 : evalD env x = .int .i64 a) (h2 : evalD env y = .int .i64 b) (hd : okDst n (some s) = true) (hb : b ≠ 0) (hr : -9223372036854775807 ≤ a ∧ a ≤ 9223372036854775807) (hk : K .normal ⟨(s, (.int .i64 (a.tdiv b))) :: env, hp, nx, n⟩) :
    evOp P (.binOp .quo t x y t') id (some s) ⟨env, hp, nx, n⟩ K := go_quo h1 h2 hd hb (tdiv_abs hb hr) hk

theorem go_bs0 {e k : Nat} [hs : TSlice P t e k] (hd : okDst n (some s) = true) (hk : K .normal ⟨(s, .os id 0 0) :: env, (id, ⟨0, true, []⟩) :: hp, nx, n⟩) : evOp P (.buildSlice t 0 #[]) id (some s) ⟨env, hp, nx, n⟩ K := by
  have h1 : op1 P (evalD env) (.buildSlice t 0 #[]) = some (false, ⟨0, true, []⟩) := by
    simp only [op1, hs.u, if_true]
    rw [if_pos ⟨rfl, by rw [hs.c]; exact hs.p⟩]
  unfold evOp
  simp only [op0, h1]
  exact ⟨hd, hk⟩

theorem go_bs1 {e k : Nat} {z v : D} {cs : List D} {fl : Bool} [hs : TSlice P t e k] [hz : TZero P e z] (h : evalD env x = v) (hkn : known v = true) (hcs : cellsD v = cs) (hzl : (cellsD z).length = k) (hl : cs.length = k) (hfl : cs.all lite = fl) (hsm : k ≤ 16777216) (hd : okDst n (some s) = true)
    (hk : K .normal ⟨(s, .os id 0 1) :: env, (id, ⟨k, fl, [cs]⟩) :: hp, nx, n⟩) : evOp P (.buildSlice t 1 #[(0, x)]) id (some s) ⟨env, hp, nx, n⟩ K := by
  subst h hcs hfl
  have h1 : op1 P (evalD env) (.buildSlice t 1 #[(0, x)]) = some (false, ⟨k, (cellsD (evalD env x)).all lite, [cellsD (evalD env x)]⟩) := by
    simp only [op1, hs.u, hz.h, Option.bind_some]
    rw [if_neg (by decide), if_pos ⟨hz.k, by rw [hzl, hs.c], by rw [hs.c]; exact hs.p, by rw [hs.c]; omega⟩]
    simp only [List.map_cons, List.map_nil, fillRows, List.replicate, List.length_cons, List.length_nil]
    rw [if_pos ⟨hkn, by rw [hl, hs.c], by omega⟩]
    simp [hs.c, flatRows]
  unfold evOp
  simp only [op0, h1]
  exact ⟨hd, hk⟩

theorem go_bs2 {e k : Nat} {z v v' : D} {cs cs' : List D} {fl : Bool} [hs : TSlice P t e k] [hz : TZero P e z] (h : evalD env x = v) (h' : evalD env y = v') (hkn : known v = true) (hkn' : known v' = true) (hcs : cellsD v = cs) (hcs' : cellsD v' = cs') (hzl : (cellsD z).length = k) (hl : cs.length = k) (hl' : cs'.length = k)
    (hfl : (cs.all lite && cs'.all lite) = fl) (hsm : k ≤ 1000000) (hd : okDst n (some s) = true)
    (hk : K .normal ⟨(s, .os id 0 2) :: env, (id, ⟨k, fl, [cs, cs']⟩) :: hp, nx, n⟩) : evOp P (.buildSlice t 2 #[(0, x), (1, y)]) id (some s) ⟨env, hp, nx, n⟩ K := by
  subst h hcs h' hcs' hfl
  have h1 : op1 P (evalD env) (.buildSlice t 2 #[(0, x), (1, y)]) = some (false, ⟨k, (cellsD (evalD env x)).all lite && (cellsD (evalD env y)).all lite, [cellsD (evalD env x), cellsD (evalD env y)]⟩) := by
    simp only [op1, hs.u, hz.h, Option.bind_some]
    rw [if_neg (by decide), if_pos ⟨hz.k, by rw [hzl, hs.c], by rw [hs.c]; exact hs.p, by rw [hs.c]; omega⟩]
    simp only [List.map_cons, List.map_nil, fillRows, List.replicate, List.length_cons, List.length_nil, List.length_set]
    rw [if_pos ⟨hkn, by rw [hl, hs.c], by omega⟩, if_pos ⟨hkn', by rw [hl', hs.c], by omega⟩]
    simp [hs.c, flatRows]
  unfold evOp
  simp only [op0, h1]
  exact ⟨hd, hk⟩

theorem go_bs1_int {e : Nat} {z : D} {k : IntKind} {a : Int} [hs : TSlice P t e 1] [hz : TZero P e z] (h : evalD env x = .int k a) (hzl : (cellsD z).length = 1) (hd : okDst n (some s) = true)
    (hk : K .normal ⟨(s, .os id 0 1) :: env, (id, ⟨1, true, [[.int k a]]⟩) :: hp, nx, n⟩) : evOp P (.buildSlice t 1 #[(0, x)]) id (some s) ⟨env, hp, nx, n⟩ K := go_bs1 h rfl rfl hzl rfl rfl (by omega) hd hk
theorem go_bs1_agg {e k : Nat} {z : D} {cs : List D} {fl : Bool} [hs : TSlice P t e k] [hz : TZero P e z] (h : evalD env x = .agg cs) (hzl : (cellsD z).length = k) (hl : cs.length = k) (hfl : cs.all lite = fl) (hsm : Nat.ble k 16777216 = true) (hd : okDst n (some s) = true)
    (hk : K .normal ⟨(s, .os id 0 1) :: env, (id, ⟨k, fl, [cs]⟩) :: hp, nx, n⟩) : evOp P (.buildSlice t 1 #[(0, x)]) id (some s) ⟨env, hp, nx, n⟩ K := go_bs1 h rfl rfl hzl hl hfl (Nat.le_of_ble_eq_true hsm) hd hk
theorem go_bs2_int {e : Nat} {z : D} {k k' : IntKind} {a a' : Int} [hs : TSlice P t e 1] [hz : TZero P e z] (h : evalD env x = .int k a) (h' : evalD env y = .int k' a') (hzl : (cellsD z).length = 1) (hd : okDst n (some s) = true)
    (hk : K .normal ⟨(s, .os id 0 2) :: env, (id, ⟨1, true, [[.int k a], [.int k' a']]⟩) :: hp, nx, n⟩) : evOp P (.buildSlice t 2 #[(0, x), (1, y)]) id (some s) ⟨env, hp, nx, n⟩ K := go_bs2 h h' rfl rfl rfl rfl hzl rfl rfl rfl (by omega) hd hk
theorem go_bs2_agg {e k : Nat} {z : D} {cs cs' : List D} {fl : Bool} [hs : TSlice P t e k] [hz : TZero P e z] (h : evalD env x = .agg cs) (h' : evalD env y = .agg cs') (hzl : (cellsD z).length = k) (hl : cs.length = k) (hl' : cs'.length = k) (hfl : (cs.all lite && cs'.all lite) = fl) (hsm : Nat.ble k 1000000 = true) (hd : okDst n (some s) = true)
    (hk : K .normal ⟨(s, .os id 0 2) :: env, (id, ⟨k, fl, [cs, cs']⟩) :: hp, nx, n⟩) : evOp P (.buildSlice t 2 #[(0, x), (1, y)]) id (some s) ⟨env, hp, nx, n⟩ K := go_bs2 h h' rfl rfl rfl rfl hzl hl hl' hfl (Nat.le_of_ble_eq_true hsm) hd hk

theorem pur_scal {h : Nat → Option Blk} {m : Nat} {d : D} (hs : scal1 d = true) : pur h (m + 1) d = some d := by
  cases d <;> first | (cases hs; done) | rfl
theorem purL_scal {h : Nat → Option Blk} : ∀ {cs : List D} {m : Nat}, cs.length < m → cs.all scal1 = true → purL h m cs = some cs
  | [], m + 1, _, _ => rfl
  | c :: cs, m + 2, hm, hs => by
    simp only [List.all_cons, Bool.and_eq_true] at hs
    simp only [purL, pur_scal (m := m) hs.1, purL_scal (cs := cs) (m := m + 1) (by simp at hm; omega) hs.2]
    rfl
theorem pur_plain {h : Nat → Option Blk} {d : D} (hs : plainE d = true) (hl : Nat.ble (widE d) 60 = true) : pur h 64 d = some d := by
  cases d with
  | agg cs =>
    have : cs.length ≤ 60 := Nat.le_of_ble_eq_true hl
    show (purL h 63 cs).map D.agg = _
    rw [purL_scal (by omega) hs]
    rfl
  | _ => exact pur_scal (m := 63) hs

theorem fin_tup2 {r1 r2 : ResultVar} {d1 d2 : D} (h1 : resD P ⟨env, hp, nx, n⟩ r1 = some d1) (h2 : resD P ⟨env, hp, nx, n⟩ r2 = some d2) (p1 : (plainE d1 && Nat.ble (widE d1) 60) = true) (p2 : (plainE d2 && Nat.ble (widE d2) 60) = true) : Fin P [r1, r2] ⟨env, hp, nx, n⟩ (.tup [d1, d2]) := by
  simp only [Bool.and_eq_true] at p1 p2
  exact fin2 (ds := [d1, d2]) (by simp [h1, h2]) ⟨pur_plain p1.1 p1.2, pur_plain p2.1 p2.2, trivial⟩ (by simp)
theorem fin_tup3 {r1 r2 r3 : ResultVar} {d1 d2 d3 : D} (h1 : resD P ⟨env, hp, nx, n⟩ r1 = some d1) (h2 : resD P ⟨env, hp, nx, n⟩ r2 = some d2) (h3 : resD P ⟨env, hp, nx, n⟩ r3 = some d3) (p1 : (plainE d1 && Nat.ble (widE d1) 60) = true) (p2 : (plainE d2 && Nat.ble (widE d2) 60) = true) (p3 : (plainE d3 && Nat.ble (widE d3) 60) = true) :
    Fin P [r1, r2, r3] ⟨env, hp, nx, n⟩ (.tup [d1, d2, d3]) := by
  simp only [Bool.and_eq_true] at p1 p2 p3
  exact fin2 (ds := [d1, d2, d3]) (by simp [h1, h2, h3]) ⟨pur_plain p1.1 p1.2, pur_plain p2.1 p2.2, pur_plain p3.1 p3.2, trivial⟩ (by simp)

theorem end_t2 {r1 r2 : ResultVar} {d1 d2 r : D} (h1 : resD P ⟨env, hp, nx, n⟩ r1 = some d1) (h2 : resD P ⟨env, hp, nx, n⟩ r2 = some d2) (p1 : (plainE d1 && Nat.ble (widE d1) 60) = true) (p2 : (plainE d2 && Nat.ble (widE d2) 60) = true) (e : D.tup [d1, d2] = r) : finK P [r1, r2] (.ret r) .ret ⟨env, hp, nx, n⟩ := e ▸ finK_ret (fin_tup2 h1 h2 p1 p2)
theorem end_t2' {r1 r2 : ResultVar} {d1 d2 r : D} (h1 : resD P ⟨env, hp, nx, n⟩ r1 = some d1) (h2 : resD P ⟨env, hp, nx, n⟩ r2 = some d2) (p1 : (plainE d1 && Nat.ble (widE d1) 60) = true) (p2 : (plainE d2 && Nat.ble (widE d2) 60) = true) (e : D.tup [d1, d2] = r) : finK P [r1, r2] (.ret r) .normal ⟨env, hp, nx, n⟩ := e ▸ finK_normal (fin_tup2 h1 h2 p1 p2)
theorem end_t3 {r1 r2 r3 : ResultVar} {d1 d2 d3 r : D} (h1 : resD P ⟨env, hp, nx, n⟩ r1 = some d1) (h2 : resD P ⟨env, hp, nx, n⟩ r2 = some d2) (h3 : resD P ⟨env, hp, nx, n⟩ r3 = some d3) (p1 : (plainE d1 && Nat.ble (widE d1) 60) = true) (p2 : (plainE d2 && Nat.ble (widE d2) 60) = true) (p3 : (plainE d3 && Nat.ble (widE d3) 60) = true)
    (e : D.tup [d1, d2, d3] = r) : finK P [r1, r2, r3] (.ret r) .ret ⟨env, hp, nx, n⟩ := e ▸ finK_ret (fin_tup3 h1 h2 h3 p1 p2 p3)
theorem end_t3' {r1 r2 r3 : ResultVar} {d1 d2 d3 r : D} (h1 : resD P ⟨env, hp, nx, n⟩ r1 = some d1) (h2 : resD P ⟨env, hp, nx, n⟩ r2 = some d2) (h3 : resD P ⟨env, hp, nx, n⟩ r3 = some d3) (p1 : (plainE d1 && Nat.ble (widE d1) 60) = true) (p2 : (plainE d2 && Nat.ble (widE d2) 60) = true) (p3 : (plainE d3 && Nat.ble (widE d3) 60) = true)
    (e : D.tup [d1, d2, d3] = r) : finK P [r1, r2, r3] (.ret r) .normal ⟨env, hp, nx, n⟩ := e ▸ finK_normal (fin_tup3 h1 h2 h3 p1 p2 p3)
/-- A struct of single values. -/
theorem end_agg {rv : ResultVar} {cs : List D} {r : D} (h : resD P ⟨env, hp, nx, n⟩ rv = some (.agg cs)) (hs : (cs.all scal1 && Nat.ble cs.length 60) = true) (e : D.agg cs = r) : finK P [rv] (.ret r) .ret ⟨env, hp, nx, n⟩ := by
  simp only [Bool.and_eq_true] at hs
  exact e ▸ finK_ret (fin1 h (pur_plain (d := .agg cs) hs.1 hs.2) rfl)
theorem end_agg' {rv : ResultVar} {cs : List D} {r : D} (h : resD P ⟨env, hp, nx, n⟩ rv = some (.agg cs)) (hs : (cs.all scal1 && Nat.ble cs.length 60) = true) (e : D.agg cs = r) : finK P [rv] (.ret r) .normal ⟨env, hp, nx, n⟩ := by
  simp only [Bool.and_eq_true] at hs
  exact e ▸ finK_normal (fin1 h (pur_plain (d := .agg cs) hs.1 hs.2) rfl)

/-- A whole variable is read. -/
theorem go_ld_agg {b k : Nat} {fl : Bool} {row : List D} [hs : TSh P t (.many k)] (h : evalD env x = .op b 0 0) (hb : lkH hp b = some ⟨k, fl, [row]⟩) (hl : row.length = k) (hd : okDst n (some s) = true) (hk : K .normal ⟨(s, .agg row) :: env, hp, nx, n⟩) : evOp P (.load t x) id (some s) ⟨env, hp, nx, n⟩ K := by
  refine go_load_own (sh' := .many k) h hb ?_ hd hk
  simp only [fromCells, getRow, List.getD_cons_zero, List.drop_zero]
  rw [if_pos (by omega), ← hl, List.take_length]
theorem go_ld_one {b : Nat} {fl : Bool} {c : D} [hs : TSh P t .one] (h : evalD env x = .op b 0 0) (hb : lkH hp b = some ⟨1, fl, [[c]]⟩) (hd : okDst n (some s) = true) (hk : K .normal ⟨(s, c) :: env, hp, nx, n⟩) : evOp P (.load t x) id (some s) ⟨env, hp, nx, n⟩ K :=
  go_load_own (sh' := .one) h hb rfl hd hk

/-- Structs built from single values, or from one struct. -/
theorem go_bd2_int {zs : List D} {k k' : IntKind} {a b : Int} [hl : TLay P t zs [(0, 1), (1, 1)]] (h : evalD env x = .int k a) (h' : evalD env y = .int k' b) (hz : zs.length = 2) (hd : okDst n (some s) = true) (hk : K .normal ⟨(s, .agg [.int k a, .int k' b]) :: env, hp, nx, n⟩) :
    evOp P (.build t #[(0, x), (1, y)]) id (some s) ⟨env, hp, nx, n⟩ K := by
  obtain ⟨z0, z1, rfl⟩ : ∃ z0 z1, zs = [z0, z1] := by
    match zs, hz with
    | [z0, z1], _ => exact ⟨z0, z1, rfl⟩
  refine go_build (parts := [(0, x), (1, y)]) ?_ hd hk
  simp only [List.map_cons, List.map_nil, h, h']
  rfl
theorem go_bd1_agg {zs cs : List D} {k : Nat} [hl : TLay P t zs [(0, k)]] (h : evalD env x = .agg cs) (hz : zs.length = k) (hc : cs.length = k) (hd : okDst n (some s) = true) (hk : K .normal ⟨(s, .agg cs) :: env, hp, nx, n⟩) :
    evOp P (.build t #[(0, x)]) id (some s) ⟨env, hp, nx, n⟩ K := by
  subst hc
  have hs : spliceL zs 0 cs = cs := by simp [spliceL, hz]
  refine go_build (parts := [(0, x)]) ?_ hd hk
  simp only [List.map_cons, List.map_nil, h]
  show (if known (.agg cs) = true ∧ cs.length = cs.length ∧ 0 + cs.length ≤ zs.length then fillD _ (spliceL zs 0 cs) [] else none) = some cs
  rw [if_pos ⟨rfl, rfl, by omega⟩, hs]
  rfl

theorem go_index_nat {α : Type} {e : TypeId} {k : Nat} {l : List α} {f : α → List D} {ik : IntKind} {j : Int} {i : Nat} [hs : TSlice P t e k] (h : evalD env x = .sl (l.map f)) (h2 : evalD env y = .int ik j) (hj : j = (i : Int)) (hk : ∀ a, (f a).length = k) (hd : okDst n (some s) = true)
    (hi : i < l.length) (hc : ∀ (hlt : i < l.length), K .normal ⟨(s, (.ptr (f l[i]))) :: env, hp, nx, n⟩) : evOp P (.indexAddr t x y) id (some s) ⟨env, hp, nx, n⟩ K := by
  subst hj
  exact go_index h h2 hk hd (by omega) fun hlt => by simpa only [Int.toNat_natCast] using hc hi

theorem go_ld_ptr {cs : List D} {k : Nat} [hs : TSh P t (.many k)] (h : evalD env x = .ptr cs) (hl : cs.length = k) (hd : okDst n (some s) = true) (hk : K .normal ⟨(s, .agg cs) :: env, hp, nx, n⟩) : evOp P (.load t x) id (some s) ⟨env, hp, nx, n⟩ K := by
  refine go_load (sh' := .many k) h ?_ hd hk
  simp only [fromCells]
  rw [if_pos (by omega), ← hl, List.take_length]

/-- Rows of single values. -/
def ScalF {α : Type} (f : α → List D) (k : Nat) : Prop := ∀ a, (f a).length = k ∧ (f a).all scal1 = true

theorem scal1_lite {d : D} (h : scal1 d = true) : lite d = true := by cases d <;> first | (cases h; done) | rfl
theorem scal1_cell1 {d : D} (h : scal1 d = true) (hu : known d = true) (hk : d ≠ .skip) : cell1 d = true := by cases d <;> first | (cases h; done) | (cases hu; done) | rfl | exact (hk rfl).elim
theorem scal1_ment {d : D} {b : Nat} (h : scal1 d = true) : ment b d = false := by cases d <;> first | (cases h; done) | rfl
theorem flat_map {α : Type} {f : α → List D} {k : Nat} (hf : ScalF f k) (l : List α) : flatRows (l.map f) = true := by
  simp only [flatRows, List.all_map, List.all_eq_true, Function.comp]
  exact fun a _ c hc => scal1_lite (List.all_eq_true.1 (hf a).2 c hc)
theorem scalR_map {α : Type} {f : α → List D} {k : Nat} (hf : ScalF f k) (l : List α) : scalR (l.map f) = true := by
  simp only [scalR, List.all_map, List.all_eq_true, Function.comp]
  exact fun a _ c hc => List.all_eq_true.1 (hf a).2 c hc

/-- A list of one's own, one element longer. -/
theorem go_app_map {α : Type} {f : α → List D} {e k b b2 len : Nat} {l : List α} {a : α} {fl2 : Bool} [hs : TSlice P t e k] (hf : ScalF f k) (h1 : evalD env x = .os b 0 len) (h2 : evalD env y = .os b2 0 1) (hb : lkH hp b = some ⟨k, true, l.map f⟩) (hlen : l.length = len) (hb2 : lkH hp b2 = some ⟨k, fl2, [f a]⟩)
    (hc1 : ((f a).all cell1) = true) (hz : zeroOK P e = true) (hby : Nat.ble (P.bytesOf e) 4096 = true) (hn : len ≤ 1000000000) (hd : okDst n (some s) = true)
    (hk : K .normal ⟨(s, .os b 0 (len + 1)) :: purgeE b env, (b, ⟨k, true, (l ++ [a]).map f⟩) :: purgeH b hp, nx, n⟩) : evOp P (.call { callee := .builtin .append, args := #[x, y], argTypes := #[t, t] }) id (some s) ⟨env, hp, nx, n⟩ K := by
  have hby' : P.bytesOf e ≤ 4096 := Nat.le_of_ble_eq_true hby
  have hap : appendD P (lkH hp) t (evalD env x) (evalD env y) = some (some b, ⟨k, true, (l ++ [a]).map f⟩) := by
    have hx : contentD (lkH hp) (.os b2 0 1) = some [f a] := by simp [contentD, hb2]
    have ho : contentD (lkH hp) (.os b 0 len) = some (l.map f) := by
      simp only [contentD, hb, Option.bind_some]
      rw [if_pos (by simp [hlen])]
      rw [List.drop_zero, List.take_of_length_le (by simp [hlen])]
    unfold appendD
    rw [hs.u, h1, h2]
    simp only [hx, ho, Option.bind_some]
    have hmul : (len + 1) * P.bytesOf e ≤ 140737488355328 := by
      have := Nat.mul_le_mul (show len + 1 ≤ 1000000001 by omega) hby'
      omega
    rw [if_pos]
    · rw [hb]
      simp only [Option.bind_some]
      rw [if_pos]
      · have hft : flatRows [f a] = true := by
          have := flat_map hf [a]
          simpa using this
        simp [hs.c, hft]
      · refine ⟨.inl hs.c.symm, fun r hr c hc => ?_⟩
        have : ∃ a', r = f a' := by
          simp only [List.mem_append, List.mem_map, List.mem_singleton] at hr
          rcases hr with ⟨a', _, rfl⟩ | rfl
          · exact ⟨a', rfl⟩
          · exact ⟨a, rfl⟩
        obtain ⟨a', rfl⟩ := this
        exact scal1_ment (List.all_eq_true.1 (hf a').2 c hc)
    · refine ⟨by rw [hs.c]; exact hs.p, fun r hr => ?_, fun r hr c hc => ?_, by simp [hlen]; exact hmul, by simp [hlen]; omega, hz, by simp [kOK, hb2, hs.c]⟩
      · simp only [List.mem_singleton] at hr
        rw [hr, (hf a).1, hs.c]
      · simp only [List.mem_singleton] at hr
        subst hr
        exact List.all_eq_true.1 hc1 c hc
  refine go_append_on hap hd ?_
  have e : (⟨k, true, (l ++ [a]).map f⟩ : Blk).rows.length = len + 1 := by simp [hlen]
  rw [e]
  exact hk

/-- A call that returns a new list, or one and a single value. -/
theorem go_fn_fr {α : Type} {f : α → List D} {k : Nat} {l : List α} {args : List Operand} {ts : Array TypeId} {g : FuncId} {args' : List D} (hp' : purL (lkH hp) 64 (args.map (evalD env)) = some args') (hc : Contract P g args' (.ret (.fr k (l.map f)))) (hf : ScalF f k) (hd : okDst n (some s) = true)
    (h : K .normal ⟨(s, .os id 0 l.length) :: env, (id, ⟨k, true, l.map f⟩) :: hp, nx, n⟩) : evOp P (.call { callee := .value (.func g), args := args.toArray, argTypes := ts }) id (some s) ⟨env, hp, nx, n⟩ K := by
  refine go_call_fn hp' hc ?_ (by simp [widR, widE]) hd ?_
  · have : refless (.fr k (l.map f)) = true := scalR_map hf l
    rw [this, Bool.or_true]
  · have e : adopt id (.fr k (l.map f)) = (.os id 0 l.length, [(id, ⟨k, true, l.map f⟩)]) := by
      simp [adopt, adE, adC, flat_map hf]
    rw [e]
    exact h
theorem go_fn_fr2 {α : Type} {f : α → List D} {k : Nat} {l : List α} {d2 : D} {args : List Operand} {ts : Array TypeId} {g : FuncId} {args' : List D} (hp' : purL (lkH hp) 64 (args.map (evalD env)) = some args') (hc : Contract P g args' (.ret (.tup [.fr k (l.map f), d2]))) (hf : ScalF f k) (h2 : scal1 d2 = true) (hd : okDst n (some s) = true)
    (h : K .normal ⟨(s, .tup [.os id 0 l.length, d2]) :: env, (id, ⟨k, true, l.map f⟩) :: hp, nx, n⟩) : evOp P (.call { callee := .value (.func g), args := args.toArray, argTypes := ts }) id (some s) ⟨env, hp, nx, n⟩ K := by
  have hw : widE d2 = 1 := by cases d2 <;> first | (cases h2; done) | rfl
  have hr2 : reflE d2 = true := plain_reflE (by cases d2 <;> first | (cases h2; done) | rfl)
  have ha2 : ∀ m, adE m d2 = (d2, []) := fun m => plain_adE (by cases d2 <;> first | (cases h2; done) | rfl)
  refine go_call_fn hp' hc ?_ (by simp [widR, hw]; simp [widE]) hd ?_
  · have : refless (.tup [.fr k (l.map f), d2]) = true := by
      simp only [refless, List.all_cons, List.all_nil, Bool.and_true, hr2]
      exact scalR_map hf l
    rw [this, Bool.or_true]
  · have e : adopt id (.tup [.fr k (l.map f), d2]) = (.tup [.os id 0 l.length, d2], [(id, ⟨k, true, l.map f⟩)]) := by
      simp only [adopt, adT, ha2]
      simp [adE, adC, flat_map hf]
    rw [e]
    exact h

/-- A new list is returned; with a single value. -/
theorem end_fr {α : Type} {f : α → List D} {rv : ResultVar} {b k : Nat} {l l' : List α} (h : resD P ⟨env, hp, nx, n⟩ rv = some (.os b 0 l.length)) (hb : lkH hp b = some ⟨k, true, l.map f⟩) (e : l = l') : finK P [rv] (.ret (.fr k (l'.map f))) .ret ⟨env, hp, nx, n⟩ := by
  subst e
  exact finK_ret (fin1_fr (rows' := l.map f) (by simpa using h) hb (by simp))
theorem fin_fr2 {r1 r2 : ResultVar} {b k len : Nat} {rows : List (List D)} {d2 : D} (h1 : resD P ⟨env, hp, nx, n⟩ r1 = some (.os b 0 len)) (hlen : rows.length = len) (hb : lkH hp b = some ⟨k, true, rows⟩) (h2 : resD P ⟨env, hp, nx, n⟩ r2 = some d2) (hs : scal1 d2 = true) : Fin P [r1, r2] ⟨env, hp, nx, n⟩ (.tup [.fr k rows, d2]) :=
  .inl ⟨[.blk b, .pure], [.os b 0 len, d2], [.fr k rows, d2], by simp [h1, h2], by simp [frsOf], ⟨⟨⟨k, true, rows⟩, rows, by rw [hlen], hb, rfl, by simp⟩, pur_scal (m := 63) hs, trivial⟩, rfl, fun h => by simp at h⟩
theorem fin_nil2 {r1 r2 : ResultVar} {k : Nat} {d2 : D} (h1 : resD P ⟨env, hp, nx, n⟩ r1 = some .nilsl) (h2 : resD P ⟨env, hp, nx, n⟩ r2 = some d2) (hs : scal1 d2 = true) : Fin P [r1, r2] ⟨env, hp, nx, n⟩ (.tup [.fr k [], d2]) :=
  .inl ⟨[.nil, .pure], [.nilsl, d2], [.fr k [], d2], by simp [h1, h2], by simp [frsOf], ⟨⟨rfl, k, rfl⟩, pur_scal (m := 63) hs, trivial⟩, rfl, fun h => by simp at h⟩

theorem go_min {k k' : IntKind} {a b : Int} {ts : Array TypeId} (h1 : evalD env x = .int k a) (h2 : evalD env y = .int k' b) (hd : okDst n (some s) = true) (hk : K .normal ⟨(s, .int k (min a b)) :: env, hp, nx, n⟩) : evOp P (.call { callee := .builtin .min, args := #[x, y], argTypes := ts }) id (some s) ⟨env, hp, nx, n⟩ K := by
  have h := evOp_min (P := P) (K := K) (env := env) (hp := hp) (nx := nx) (n := n) (id := id) (dst := some s) (x := x) (xs := [y]) (ts := ts)
  rw [show (#[x, y] : Array Operand) = (x :: [y]).toArray from rfl, h]
  refine ⟨.int k (min a b), ?_, hd, hk⟩
  simp only [List.map_cons, List.map_nil, foldD, h1, h2, min2D, Option.bind_some, Option.some.injEq, D.int.injEq, true_and]
  omega
theorem go_max {k k' : IntKind} {a b : Int} {ts : Array TypeId} (h1 : evalD env x = .int k a) (h2 : evalD env y = .int k' b) (hd : okDst n (some s) = true) (hk : K .normal ⟨(s, .int k (max a b)) :: env, hp, nx, n⟩) : evOp P (.call { callee := .builtin .max, args := #[x, y], argTypes := ts }) id (some s) ⟨env, hp, nx, n⟩ K := by
  have h := evOp_max (P := P) (K := K) (env := env) (hp := hp) (nx := nx) (n := n) (id := id) (dst := some s) (x := x) (xs := [y]) (ts := ts)
  rw [show (#[x, y] : Array Operand) = (x :: [y]).toArray from rfl, h]
  refine ⟨.int k (max a b), ?_, hd, hk⟩
  simp only [List.map_cons, List.map_nil, foldD, h1, h2, max2D, Option.bind_some, Option.some.injEq, D.int.injEq, true_and]
  omega

/-- A struct of three values. -/
theorem go_bd3 {zs : List D} {d1 d2 d3 : D} {z : Operand} [hl : TLay P t zs [(0, 1), (1, 1), (2, 1)]] (h1 : evalD env x = d1) (h2 : evalD env y = d2) (h3 : evalD env z = d3) (hz : zs.length = 3) (p : (scal1 d1 && scal1 d2 && scal1 d3 && known d1 && known d2 && known d3) = true) (hd : okDst n (some s) = true) (hk : K .normal ⟨(s, .agg [d1, d2, d3]) :: env, hp, nx, n⟩) :
    evOp P (.build t #[(0, x), (1, y), (2, z)]) id (some s) ⟨env, hp, nx, n⟩ K := by
  obtain ⟨z0, z1, z2, rfl⟩ : ∃ z0 z1 z2, zs = [z0, z1, z2] := by
    match zs, hz with
    | [z0, z1, z2], _ => exact ⟨z0, z1, z2, rfl⟩
  simp only [Bool.and_eq_true] at p
  obtain ⟨⟨⟨⟨⟨p1, p2⟩, p3⟩, p4⟩, p5⟩, p6⟩ := p
  have hc : ∀ d, scal1 d = true → cellsD d = [d] := fun d h => by cases d <;> first | (cases h; done) | rfl
  refine go_build (parts := [(0, x), (1, y), (2, z)]) ?_ hd hk
  simp only [List.map_cons, List.map_nil, h1, h2, h3]
  simp only [fillD, List.getElem?_cons_zero, List.getElem?_cons_succ, hc _ p1, hc _ p2, hc _ p3, p4, p5, p6]
  rfl

theorem go_bd3_sii {zs : List D} {a : ByteArray} {k k' : IntKind} {b c : Int} {z : Operand} [hl : TLay P t zs [(0, 1), (1, 1), (2, 1)]] (h1 : evalD env x = .str a) (h2 : evalD env y = .int k b) (h3 : evalD env z = .int k' c) (hz : zs.length = 3) (hd : okDst n (some s) = true) (hk : K .normal ⟨(s, .agg [.str a, .int k b, .int k' c]) :: env, hp, nx, n⟩) :
    evOp P (.build t #[(0, x), (1, y), (2, z)]) id (some s) ⟨env, hp, nx, n⟩ K := go_bd3 h1 h2 h3 hz rfl hd hk
theorem go_bd3_iii {zs : List D} {k k' k2 : IntKind} {a b c : Int} {z : Operand} [hl : TLay P t zs [(0, 1), (1, 1), (2, 1)]] (h1 : evalD env x = .int k a) (h2 : evalD env y = .int k' b) (h3 : evalD env z = .int k2 c) (hz : zs.length = 3) (hd : okDst n (some s) = true) (hk : K .normal ⟨(s, .agg [.int k a, .int k' b, .int k2 c]) :: env, hp, nx, n⟩) :
    evOp P (.build t #[(0, x), (1, y), (2, z)]) id (some s) ⟨env, hp, nx, n⟩ K := go_bd3 h1 h2 h3 hz rfl hd hk

/-- Structs compared. -/
theorem go_neq_agg {ks : List Kd} {a b : List D} {q : Bool} [he : TEq P t ks] (h1 : evalD env x = .agg a) (h2 : evalD env y = .agg b) (hq : cellsEq ks a b = some q) (hd : okDst n (some s) = true) (hk : K .normal ⟨(s, .bool !q) :: env, hp, nx, n⟩) : evOp P (.binOp .neq t x y t') id (some s) ⟨env, hp, nx, n⟩ K :=
  go_bin (d := .bool !q) (by rw [h1, h2]; simp [binD, he.h, hq]) hd hk
theorem go_eql_agg {ks : List Kd} {a b : List D} {q : Bool} [he : TEq P t ks] (h1 : evalD env x = .agg a) (h2 : evalD env y = .agg b) (hq : cellsEq ks a b = some q) (hd : okDst n (some s) = true) (hk : K .normal ⟨(s, .bool q) :: env, hp, nx, n⟩) : evOp P (.binOp .eql t x y t') id (some s) ⟨env, hp, nx, n⟩ K :=
  go_bin (d := .bool q) (by rw [h1, h2]; simp [binD, he.h, hq]) hd hk

/-- An element of an array of one's own. -/
theorem go_index_arr {len k : Nat} {b row off : Nat} {blk : Blk} {ik : IntKind} {i : Int} [ha : TArr P t len k] (h : evalD env x = .op b row off) (h2 : evalD env y = .int ik i) (hb : lkH hp b = some blk) (hd : okDst n (some s) = true) (hi : 0 ≤ i ∧ i < len)
    (hk : K .normal ⟨(s, .op b row (off + i.toNat * k)) :: env, hp, nx, n⟩) : evOp P (.indexAddr t x y) id (some s) ⟨env, hp, nx, n⟩ K := by
  rw [evOp_indexAddr]
  refine ⟨.op b row (off + i.toNat * k), ?_, hd, hk⟩
  obtain ⟨e, hu, hc, hp0⟩ := ha.h
  rw [h, h2]
  simp only [indexAddrD, hu, hb]
  rw [if_pos ⟨hi.1, hi.2, by omega⟩, hc]

theorem pur_own {h : Nat → Option Blk} {b k len m : Nat} {rows : List (List D)} (hb : h b = some ⟨k, true, rows⟩) (hl : rows.length = len) : pur h (m + 1) (.os b 0 len) = some (.sl rows) := by
  simp only [pur, hb, Option.bind_some]
  rw [if_pos (by omega), List.drop_zero, List.take_of_length_le (by omega)]
  rfl
theorem pur2_own {b1 b2 k1 k2 n1 n2 : Nat} {r1 r2 : List (List D)} (h1 : evalD env x = .os b1 0 n1) (h2 : evalD env y = .os b2 0 n2) (hb1 : lkH hp b1 = some ⟨k1, true, r1⟩) (hb2 : lkH hp b2 = some ⟨k2, true, r2⟩) (hl1 : r1.length = n1) (hl2 : r2.length = n2) :
    purL (lkH hp) 64 ([x, y].map (evalD env)) = some [.sl r1, .sl r2] := by
  simp only [List.map_cons, List.map_nil, h1, h2, purL, pur_own (m := 62) hb1 hl1, pur_own (m := 61) hb2 hl2, Option.bind_some, Option.map_some]

end
end Go.Pv

/- Elements of own lists whose rows are an image. -/
namespace Go.Pv
section
variable {P : Program} {K : X → St → Prop} {env : Env} {hp : Hp} {nx n id : Nat} {s : Tmp} {x y f : Operand} {t t' : TypeId}
theorem getRow_map {α : Type} {l : List α} {f : α → List D} {i : Nat} (hi : i < l.length) : getRow (l.map f) i = f l[i] := by
  simp [getRow, List.getD_eq_getElem?_getD, hi]
theorem go_index_om {α : Type} {e : TypeId} {k k' b len : Nat} {fl : Bool} {l : List α} {f : α → List D} {ik : IntKind} {j : Int} {i : Nat} [hs : TSlice P t e k] (h : evalD env x = .os b 0 len) (h2 : evalD env y = .int ik j) (hb : lkH hp b = some ⟨k', fl, l.map f⟩) (hj : j = (i : Int))
    (hd : okDst n (some s) = true) (hkk : k' = k) (hi : i < len ∧ len ≤ l.length) (hc : ∀ (hlt : i < l.length), K .normal ⟨(s, (.op b i 0)) :: env, hp, nx, n⟩) : evOp P (.indexAddr t x y) id (some s) ⟨env, hp, nx, n⟩ K := by
  subst hj
  refine go_index_own h h2 hb hd hkk ⟨by omega, ?_⟩ ?_
  · show 0 + len ≤ (l.map f).length
    rw [List.length_map]; omega
  · simpa only [Int.toNat_natCast, Nat.zero_add] using hc (by omega)
theorem go_load_om {α : Type} {sh' : Sh} {b i o k : Nat} {fl : Bool} {l : List α} {f : α → List D} {d : D} [hs : TSh P t sh'] (h : evalD env x = .op b i o) (hb : lkH hp b = some ⟨k, fl, l.map f⟩) (hi : i < l.length) (hc : fromCells sh' ((f l[i]).drop o) = some d) (hd : okDst n (some s) = true)
    (hk : K .normal ⟨(s, d) :: env, hp, nx, n⟩) : evOp P (.load t x) id (some s) ⟨env, hp, nx, n⟩ K :=
  go_load_own h hb (by show fromCells sh' ((getRow (l.map f) i).drop o) = some d; rw [getRow_map hi]; exact hc) hd hk
end
end Go.Pv

/- One element appended to a nil list. -/
namespace Go.Pv
section
variable {P : Program} {K : X → St → Prop} {env : Env} {hp : Hp} {nx n id : Nat} {s : Tmp} {x y f : Operand} {t t' : TypeId}
theorem go_app_nil {α : Type} {f : α → List D} {e k b2 : Nat} {a : α} {fl2 : Bool} [hs : TSlice P t e k] (hf : ScalF f k) (h1 : evalD env x = .nilsl) (h2 : evalD env y = .os b2 0 1) (hb2 : lkH hp b2 = some ⟨k, fl2, [f a]⟩)
    (hc1 : ((f a).all cell1) = true) (hz : zeroOK P e = true) (hby : Nat.ble (P.bytesOf e) 4096 = true) : appendD P (lkH hp) t (evalD env x) (evalD env y) = some (none, ⟨k, true, [a].map f⟩) := by
  have hby' : P.bytesOf e ≤ 4096 := Nat.le_of_ble_eq_true hby
  have hx : contentD (lkH hp) (.os b2 0 1) = some [f a] := by simp [contentD, hb2]
  unfold appendD
  rw [hs.u, h1, h2]
  have ho : contentD (lkH hp) .nilsl = some [] := rfl
  simp only [hx, ho, Option.bind_some]
  have hft : flatRows [f a] = true := by
    have := flat_map hf [a]
    simpa using this
  rw [if_pos]
  · simp [hs.c, hft]
  · refine ⟨by rw [hs.c]; exact hs.p, fun r hr => ?_, fun r hr c hc => ?_, by simp; omega, by simp, hz, by simp [kOK, hb2, hs.c]⟩
    · simp only [List.mem_singleton] at hr
      rw [hr, (hf a).1, hs.c]
    · simp only [List.mem_singleton] at hr
      subst hr
      exact List.all_eq_true.1 hc1 c hc
end
end Go.Pv

/- Loops with a measure; parts of own lists; stores into own lists whose rows are an image. -/
namespace Go.Pv
section
variable {P : Program} {E : St → St → Prop} {K : X → St → Prop} {env : Env} {hp : Hp} {nx n id : Nat} {s : Tmp} {x y f : Operand} {t t' : TypeId}

/-- A loop whose states carry a measure that falls. -/
theorem go_while {σ : Type} (μ : σ → Nat) (S : σ → St) (C : σ → Prop) (x0 : σ) {c : Code} {st : St} (he : E st (S x0)) (h0 : C x0)
    (h : ∀ x, C x → evG E P c (kSeq (fun st' => ∃ y, μ y < μ x ∧ C y ∧ E st' (S y)) K) (S x)) : evG E P (.loop c) K st := by
  refine go_loop (fun m s => ∃ x, m = μ x ∧ C x ∧ s = S x) (μ x0) (S x0) he ⟨x0, rfl, h0, rfl⟩ ?_
  rintro m s ⟨x, rfl, hC, rfl⟩
  have := h x hC
  have key : ∀ (c : Code) (f g : St → Prop) (s : St), (∀ st, f st → g st) → evG E P c (kSeq f K) s → evG E P c (kSeq g K) s := fun c f g s hfg => ev_mono c _ _ s fun x st hx => by
    cases x <;> first | exact hfg st hx | exact hx
  refine key c _ _ _ (fun st' ⟨y, h1, h2, h3⟩ => ?_) this
  exact ⟨μ y, S y, h1, h3, y, rfl, h2, rfl⟩

/-- The elements behind the first ones, of a list of one's own. -/
theorem go_drop_os {e : TypeId} {k b off len : Nat} {blk : Blk} {ik : IntKind} {i : Int} [hs : TSlice P t e k] (h : evalD env x = .os b off len) (h2 : evalD env y = .int ik i) (hb : lkH hp b = some blk) (hkk : blk.k = k) (hd : okDst n (some s) = true)
    (hi : 0 ≤ i ∧ i ≤ len) (hk : K .normal ⟨(s, .os b (off + i.toNat) (len - i.toNat)) :: env, hp, nx, n⟩) : evOp P (.slice t x (some y) none none) id (some s) ⟨env, hp, nx, n⟩ K := by
  rw [evOp_slice]
  refine ⟨.os b (off + i.toNat) (len - i.toNat), ?_, hd, hk⟩
  simp only [Option.map_none, Option.map_some, h, h2, sliceD, hs.u, boundD, hb]
  rw [if_pos hi.1]
  simp only []
  rw [if_pos]
  exact ⟨by omega, Nat.le_refl _, by rw [hs.c]; exact hs.p, by rw [hkk, hs.c]⟩

/-- The place of an element of a part of an own list. -/
theorem go_index_oq {α : Type} {e : TypeId} {k k' b off len : Nat} {fl : Bool} {l : List α} {f : α → List D} {ik : IntKind} {j : Int} {i : Nat} [hs : TSlice P t e k] (h : evalD env x = .os b off len) (h2 : evalD env y = .int ik j) (hb : lkH hp b = some ⟨k', fl, l.map f⟩) (hj : j = (i : Int))
    (hd : okDst n (some s) = true) (hkk : k' = k) (hi : i < len ∧ off + len ≤ l.length) (hc : ∀ (_ : off + i < l.length), K .normal ⟨(s, (.op b (off + i) 0)) :: env, hp, nx, n⟩) : evOp P (.indexAddr t x y) id (some s) ⟨env, hp, nx, n⟩ K := by
  subst hj
  refine go_index_own h h2 hb hd hkk ⟨by omega, ?_⟩ ?_
  · show off + len ≤ (l.map f).length
    rw [List.length_map]; omega
  · simpa only [Int.toNat_natCast] using hc (by omega)

/-- One element appended to the part of an own list that reaches to its end. -/
theorem go_app_mapq {α : Type} {f : α → List D} {e k b b2 off len : Nat} {l : List α} {a : α} {fl2 : Bool} [hs : TSlice P t e k] (hf : ScalF f k) (h1 : evalD env x = .os b off len) (h2 : evalD env y = .os b2 0 1) (hb : lkH hp b = some ⟨k, true, l.map f⟩) (hlen : l.length = off + len) (hb2 : lkH hp b2 = some ⟨k, fl2, [f a]⟩)
    (hc1 : ((f a).all cell1) = true) (hz : zeroOK P e = true) (hby : Nat.ble (P.bytesOf e) 4096 = true) (hn : len ≤ 1000000000) (hd : okDst n (some s) = true)
    (hk : K .normal ⟨(s, .os b 0 (len + 1)) :: purgeE b env, (b, ⟨k, true, (l.drop off ++ [a]).map f⟩) :: purgeH b hp, nx, n⟩) : evOp P (.call { callee := .builtin .append, args := #[x, y], argTypes := #[t, t] }) id (some s) ⟨env, hp, nx, n⟩ K := by
  have hby' : P.bytesOf e ≤ 4096 := Nat.le_of_ble_eq_true hby
  have hap : appendD P (lkH hp) t (evalD env x) (evalD env y) = some (some b, ⟨k, true, (l.drop off ++ [a]).map f⟩) := by
    have hx : contentD (lkH hp) (.os b2 0 1) = some [f a] := by simp [contentD, hb2]
    have ho : contentD (lkH hp) (.os b off len) = some ((l.drop off).map f) := by
      simp only [contentD, hb, Option.bind_some]
      rw [if_pos (by simp [hlen])]
      rw [List.map_drop, List.take_of_length_le (by simp; omega)]
    unfold appendD
    rw [hs.u, h1, h2]
    simp only [hx, ho, Option.bind_some]
    have hmul : (len + 1) * P.bytesOf e ≤ 140737488355328 := by
      have := Nat.mul_le_mul (show len + 1 ≤ 1000000001 by omega) hby'
      omega
    have hdl : (l.drop off).length = len := by simp; omega
    rw [if_pos]
    · rw [hb]
      simp only [Option.bind_some]
      rw [if_pos]
      · have hft : flatRows [f a] = true := by
          have := flat_map hf [a]
          simpa using this
        simp [hs.c, hft]
      · refine ⟨.inl hs.c.symm, fun r hr c hc => ?_⟩
        have : ∃ a', r = f a' := by
          simp only [List.mem_append, List.mem_map, List.mem_singleton] at hr
          rcases hr with ⟨a', _, rfl⟩ | rfl
          · exact ⟨a', rfl⟩
          · exact ⟨a, rfl⟩
        obtain ⟨a', rfl⟩ := this
        exact scal1_ment (List.all_eq_true.1 (hf a').2 c hc)
    · refine ⟨by rw [hs.c]; exact hs.p, fun r hr => ?_, fun r hr c hc => ?_, by simp only [List.length_map, hdl, List.length_cons, List.length_nil]; exact hmul, by simp only [List.length_map, hdl, List.length_cons, List.length_nil]; omega, hz, by simp [kOK, hb2, hs.c]⟩
      · simp only [List.mem_singleton] at hr
        rw [hr, (hf a).1, hs.c]
      · simp only [List.mem_singleton] at hr
        subst hr
        exact List.all_eq_true.1 hc1 c hc
  refine go_append_on hap hd ?_
  have e : (⟨k, true, (l.drop off ++ [a]).map f⟩ : Blk).rows.length = len + 1 := by simp; omega
  rw [e]
  exact hk

/-- A store into an element of an own list, or into a part of it. -/
theorem go_store_om {α : Type} {b i off k k' : Nat} {v : D} {fl : Bool} {l : List α} {f : α → List D} {a : α} [hc : TCells P t k] (ha : evalD env x = .op b i off) (hv : evalD env y = v) (hb : lkH hp b = some ⟨k', fl, l.map f⟩) (hi : i < l.length) (hkn : known v = true) (hl : (cellsD v).length = k) (h1 : (cellsD v).all cell1 = true) (h2 : (cellsD v).all lite = true)
    (hfit : off + k ≤ k') (hs : spliceL (f l[i]) off (cellsD v) = f a) (hk : K .normal ⟨env, updH b ⟨k', fl, (l.set i a).map f⟩ hp, nx, n⟩) :
    evOp P (.store t x y) id none ⟨env, hp, nx, n⟩ K := by
  refine go_store (rows := (l.set i a).map f) (fl := fl) ha hv hb hkn hl h1 hfit (by simpa using hi) ?_ (by simp [h2]) hk
  show (l.map f).set i (spliceL (getRow (l.map f) i) off (cellsD v)) = _
  rw [getRow_map hi, hs, List.map_set]

/-- A cell that is itself in any memory. -/
def cellP : D → Bool
  | .int .. | .bool _ | .str _ | .sl _ | .ptr _ => true
  | _ => false
theorem pur_cellP {h : Nat → Option Blk} {m : Nat} {c : D} (hc : cellP c = true) : pur h (m + 1) c = some c := by
  cases c <;> first | (cases hc; done) | rfl
theorem finL_cells {h hX : Nat → Option Blk} {b k len : Nat} {rows : List (List D)} (hb : h b = some ⟨k, true, rows⟩) (hlen : rows.length = len) : ∀ {cs tl tr : List D} {ss : List Src}, cs.all cellP = true → finL h hX ss tl tr →
    finL h hX (cs.map (fun _ => Src.pure) ++ .blk b :: ss) (cs ++ .os b 0 len :: tl) (cs ++ .fr k rows :: tr)
  | [], _, _, _, _, ht => ⟨⟨⟨k, true, rows⟩, rows, by rw [hlen], hb, rfl, by simp⟩, ht⟩
  | c :: cs, _, _, _, hc, ht => by
    simp only [List.all_cons, Bool.and_eq_true] at hc
    exact ⟨pur_cellP (m := 63) hc.1, finL_cells hb hlen hc.2 ht⟩
theorem frsOf_cells {b : Nat} {ss : List Src} : ∀ (cs : List D), frsOf (cs.map (fun _ => Src.pure) ++ .blk b :: ss) = b :: frsOf ss
  | [] => rfl
  | c :: cs => by simp only [List.map_cons, List.cons_append, frsOf]; exact frsOf_cells cs
theorem cells_agg (cs : List D) : cellsD (.agg cs) = cs := rfl
theorem refl_agg (cs : List D) : reflE (.agg cs) = cs.all reflC := rfl
theorem isCell_cellP {c : D} (h : cellP c = true) : isCell c = true := by cases c <;> first | (cases h; done) | rfl

/-- A struct is returned whose last cell is a new list. -/
theorem fin_agf {rv : ResultVar} {cs : List D} {b k len : Nat} {rows : List (List D)} (h : resD P ⟨env, hp, nx, n⟩ rv = some (.agg (cs ++ [.os b 0 len]))) (hb : lkH hp b = some ⟨k, true, rows⟩) (hlen : rows.length = len) (hc : cs.all cellP = true) : Fin P [rv] ⟨env, hp, nx, n⟩ (.agg (cs ++ [.fr k rows])) := by
  refine .inr ⟨cs.map (fun _ => Src.pure) ++ [.blk b], [.agg (cs ++ [.os b 0 len])], [.agg (cs ++ [.fr k rows])], by simp [h], by rw [frsOf_cells]; simp [frsOf], ?_, rfl, fun _ => rfl, by simp [isCell, cellsD], ?_⟩
  · simp only [List.flatMap_cons, List.flatMap_nil, List.append_nil, cellsD]
    exact finL_cells hb hlen hc trivial
  · simp only [List.flatMap_cons, List.flatMap_nil, List.append_nil, cellsD, List.all_append, List.all_cons, List.all_nil, Bool.and_true, Bool.and_eq_true]
    exact ⟨List.all_eq_true.2 fun c h => isCell_cellP (List.all_eq_true.1 hc c h), rfl⟩
/-- With a single value. -/
theorem fin_agf2 {r1 r2 : ResultVar} {cs : List D} {b k len : Nat} {rows : List (List D)} {d2 : D} (h : resD P ⟨env, hp, nx, n⟩ r1 = some (.agg (cs ++ [.os b 0 len]))) (hb : lkH hp b = some ⟨k, true, rows⟩) (hlen : rows.length = len) (hc : cs.all cellP = true) (h2 : resD P ⟨env, hp, nx, n⟩ r2 = some d2) (hs : cellP d2 = true) :
    Fin P [r1, r2] ⟨env, hp, nx, n⟩ (.tup [.agg (cs ++ [.fr k rows]), d2]) := by
  have hd2 : cellsD d2 = [d2] := by cases d2 <;> first | (cases hs; done) | rfl
  refine .inr ⟨cs.map (fun _ => Src.pure) ++ [.blk b, .pure], [.agg (cs ++ [.os b 0 len]), d2], [.agg (cs ++ [.fr k rows]), d2], by simp [h, h2], by rw [frsOf_cells]; simp [frsOf], ?_, rfl, fun h => by simp at h, by simp [isCell, cellsD], ?_⟩
  · simp only [List.flatMap_cons, List.flatMap_nil, List.append_nil, cells_agg, hd2, List.append_assoc, List.cons_append, List.nil_append]
    exact finL_cells hb hlen hc ⟨pur_cellP (m := 63) hs, trivial⟩
  · simp only [List.flatMap_cons, List.flatMap_nil, List.append_nil, cells_agg, hd2, List.all_append, List.all_cons, List.all_nil, Bool.and_true, Bool.and_eq_true]
    exact ⟨⟨List.all_eq_true.2 fun c h => isCell_cellP (List.all_eq_true.1 hc c h), rfl⟩, isCell_cellP hs⟩
theorem fin_agf3 {r1 r2 r3 : ResultVar} {cs : List D} {b k len : Nat} {rows : List (List D)} {d2 d3 : D} (h : resD P ⟨env, hp, nx, n⟩ r1 = some (.agg (cs ++ [.os b 0 len]))) (hb : lkH hp b = some ⟨k, true, rows⟩) (hlen : rows.length = len) (hc : cs.all cellP = true) (h2 : resD P ⟨env, hp, nx, n⟩ r2 = some d2) (hs : cellP d2 = true) (h3 : resD P ⟨env, hp, nx, n⟩ r3 = some d3) (hs3 : cellP d3 = true) :
    Fin P [r1, r2, r3] ⟨env, hp, nx, n⟩ (.tup [.agg (cs ++ [.fr k rows]), d2, d3]) := by
  have hd2 : cellsD d2 = [d2] := by cases d2 <;> first | (cases hs; done) | rfl
  have hd3 : cellsD d3 = [d3] := by cases d3 <;> first | (cases hs3; done) | rfl
  refine .inr ⟨cs.map (fun _ => Src.pure) ++ [.blk b, .pure, .pure], [.agg (cs ++ [.os b 0 len]), d2, d3], [.agg (cs ++ [.fr k rows]), d2, d3], by simp [h, h2, h3], by rw [frsOf_cells]; simp [frsOf], ?_, rfl, fun h => by simp at h, by simp [isCell, cellsD], ?_⟩
  · simp only [List.flatMap_cons, List.flatMap_nil, List.append_nil, cells_agg, hd2, hd3, List.append_assoc, List.cons_append, List.nil_append]
    exact finL_cells hb hlen hc ⟨pur_cellP (m := 63) hs, pur_cellP (m := 63) hs3, trivial⟩
  · simp only [List.flatMap_cons, List.flatMap_nil, List.append_nil, cells_agg, hd2, hd3, List.all_append, List.all_cons, List.all_nil, Bool.and_true, Bool.and_eq_true]
    exact ⟨⟨List.all_eq_true.2 fun c h => isCell_cellP (List.all_eq_true.1 hc c h), rfl⟩, isCell_cellP hs, isCell_cellP hs3⟩
/-- A new list is returned. -/
theorem end_frn {α : Type} {f : α → List D} {rv : ResultVar} {b k len : Nat} {l l' : List α} (h : resD P ⟨env, hp, nx, n⟩ rv = some (.os b 0 len)) (hb : lkH hp b = some ⟨k, true, l.map f⟩) (hlen : l.length = len) (e : l = l') : finK P [rv] (.ret (.fr k (l'.map f))) .ret ⟨env, hp, nx, n⟩ := by
  subst hlen
  exact end_fr h hb e

theorem adL_cells {k : Nat} {rows : List (List D)} : ∀ {cs : List D} {m : Nat}, cs.all cellP = true → adL m (cs ++ [.fr k rows]) = (cs ++ [.os (m + cs.length) 0 rows.length], [(m + cs.length, ⟨k, flatRows rows, rows⟩)])
  | [], m, _ => by simp [adL, adC]
  | c :: cs, m, h => by
    simp only [List.all_cons, Bool.and_eq_true] at h
    have hc : adC m c = (c, []) := by cases c <;> first | rfl | (exact absurd h.1 (by simp [cellP]))
    simp only [List.cons_append, adL, hc, adL_cells (cs := cs) (m := m + 1) h.2, List.nil_append, List.length_cons]
    rw [show m + 1 + cs.length = m + (cs.length + 1) by omega]
theorem pur_os {h : Nat → Option Blk} {b len k m : Nat} {rows : List (List D)} (hb : h b = some ⟨k, true, rows⟩) (hl : rows.length = len) : pur h (m + 1) (.os b 0 len) = some (.sl rows) := by
  simp only [pur, hb, Option.bind_some]
  rw [if_pos (by omega)]
  simp [← hl]
theorem purL_cells {h : Nat → Option Blk} {b len k : Nat} {rows : List (List D)} (hb : h b = some ⟨k, true, rows⟩) (hl : rows.length = len) : ∀ {cs : List D} {m : Nat}, cs.length + 1 < m → cs.all cellP = true → purL h m (cs ++ [.os b 0 len]) = some (cs ++ [.sl rows])
  | [], m + 2, _, _ => by simp only [List.nil_append, purL, pur_os hb hl, Option.bind_some, Option.map_some]
  | c :: cs, m + 2, hm, hs => by
    simp only [List.all_cons, Bool.and_eq_true] at hs
    simp only [List.length_cons] at hm
    simp only [List.cons_append, purL, pur_cellP (m := m) hs.1, purL_cells hb hl (cs := cs) (m := m + 1) (by omega) hs.2, Option.bind_some, Option.map_some]
  | _ :: _, 0, hm, _ => absurd hm (by simp)
  | _ :: _, 1, hm, _ => absurd hm (by simp)
  | [], 0, hm, _ => absurd hm (by simp)
  | [], 1, hm, _ => absurd hm (by simp)
/-- A struct whose last cell is an own list, handed over with others. -/
theorem purL_agf {h : Nat → Option Blk} {b len k : Nat} {rows : List (List D)} {cs ds rs : List D} (hb : h b = some ⟨k, true, rows⟩) (hl : rows.length = len) (hc : cs.all cellP = true) (hn : Nat.ble cs.length 40 = true) (hr : purL h 63 ds = some rs) :
    purL h 64 (.agg (cs ++ [.os b 0 len]) :: ds) = some (.agg (cs ++ [.sl rows]) :: rs) := by
  have hn' := Nat.le_of_ble_eq_true hn
  have e : pur h 63 (.agg (cs ++ [.os b 0 len])) = some (.agg (cs ++ [.sl rows])) := by
    show (purL h 62 _).map D.agg = _
    rw [purL_cells hb hl (by omega) hc]
    rfl
  show (pur h 63 _).bind _ = _
  rw [e]
  simp only [Option.bind_some, hr, Option.map_some]
/-- A call that returns a struct whose last cell is a new list; its arguments lead to no memory of one's own. -/
theorem go_fn_agf {α : Type} {f : α → List D} {k q : Nat} {l : List α} {cs : List D} {args : List Operand} {ts : Array TypeId} {g : FuncId} {args' : List D} (hp' : purL (lkH hp) 64 (args.map (evalD env)) = some args') (hc : Contract P g args' (.ret (.agg (cs ++ [.fr k (l.map f)])))) (hf : ScalF f k) (hcs : cs.all cellP = true) (hq : cs.length = q) (hw : Nat.ble q 31 = true)
    (hr : pureL (args.map (evalD env)) = true) (hd : okDst n (some s) = true)
    (h : K .normal ⟨(s, .agg (cs ++ [.os (id + q) 0 l.length])) :: env, (id + q, ⟨k, true, l.map f⟩) :: hp, nx, n⟩) : evOp P (.call { callee := .value (.func g), args := args.toArray, argTypes := ts }) id (some s) ⟨env, hp, nx, n⟩ K := by
  subst hq
  have hw' := Nat.le_of_ble_eq_true hw
  refine go_call_fn hp' hc (by rw [hr, Bool.true_or]) (by simp [widR, widE]; omega) hd ?_
  have e : adopt id (.agg (cs ++ [.fr k (l.map f)])) = (.agg (cs ++ [.os (id + cs.length) 0 l.length]), [(id + cs.length, ⟨k, true, l.map f⟩)]) := by
    simp [adopt, adE, adL_cells hcs, flat_map hf]
  rw [e]
  exact h
/-- The same with a single value; the struct's other cells are single values. -/
theorem go_fn_agf2 {α : Type} {f : α → List D} {k q : Nat} {l : List α} {cs : List D} {d2 : D} {args : List Operand} {ts : Array TypeId} {g : FuncId} {args' : List D} (hp' : purL (lkH hp) 64 (args.map (evalD env)) = some args') (hc : Contract P g args' (.ret (.tup [.agg (cs ++ [.fr k (l.map f)]), d2]))) (hf : ScalF f k) (hcs : cs.all cellP = true) (hq : cs.length = q) (hw : Nat.ble q 30 = true)
    (h2 : cellP d2 = true) (hr : (cs.all scal1 && scal1 d2) = true) (hd : okDst n (some s) = true)
    (h : K .normal ⟨(s, .tup [.agg (cs ++ [.os (id + q) 0 l.length]), d2]) :: env, (id + q, ⟨k, true, l.map f⟩) :: hp, nx, n⟩) : evOp P (.call { callee := .value (.func g), args := args.toArray, argTypes := ts }) id (some s) ⟨env, hp, nx, n⟩ K := by
  subst hq
  have hw' := Nat.le_of_ble_eq_true hw
  simp only [Bool.and_eq_true] at hr
  have w2 : widE d2 = 1 := by cases d2 <;> first | (cases h2; done) | rfl
  have ha2 : ∀ m, adE m d2 = (d2, []) := fun m => by cases d2 <;> first | (cases h2; done) | rfl
  have r2 : reflE d2 = true := plain_reflE (by cases d2 <;> first | (cases h2; done) | exact hr.2)
  refine go_call_fn hp' hc ?_ (by simp [widR, w2]; simp [widE]; omega) hd ?_
  · have : refless (.tup [.agg (cs ++ [.fr k (l.map f)]), d2]) = true := by
      simp only [refless, List.all_cons, List.all_nil, Bool.and_true, r2, refl_agg, List.all_append]
      rw [Bool.and_eq_true]
      refine ⟨List.all_eq_true.2 fun c hc => ?_, scalR_map hf l⟩
      have h1 := List.all_eq_true.1 hcs c hc
      have h2 := List.all_eq_true.1 hr.1 c hc
      cases c <;> first | (cases h1; done) | (cases h2; done) | rfl
    rw [this, Bool.or_true]
  have e : adopt id (.tup [.agg (cs ++ [.fr k (l.map f)]), d2]) = (.tup [.agg (cs ++ [.os (id + cs.length) 0 l.length]), d2], [(id + cs.length, ⟨k, true, l.map f⟩)]) := by
    simp only [adopt, adT, ha2]
    simp [adE, adL_cells hcs, flat_map hf]
  rw [e]
  exact h
theorem go_fn_agf3 {α : Type} {f : α → List D} {k q : Nat} {l : List α} {cs : List D} {d2 d3 : D} {args : List Operand} {ts : Array TypeId} {g : FuncId} {args' : List D} (hp' : purL (lkH hp) 64 (args.map (evalD env)) = some args') (hc : Contract P g args' (.ret (.tup [.agg (cs ++ [.fr k (l.map f)]), d2, d3]))) (hf : ScalF f k) (hcs : cs.all cellP = true) (hq : cs.length = q) (hw : Nat.ble q 29 = true)
    (h2 : cellP d2 = true) (h3 : cellP d3 = true) (hr : (cs.all scal1 && scal1 d2 && scal1 d3) = true) (hd : okDst n (some s) = true)
    (h : K .normal ⟨(s, .tup [.agg (cs ++ [.os (id + q) 0 l.length]), d2, d3]) :: env, (id + q, ⟨k, true, l.map f⟩) :: hp, nx, n⟩) : evOp P (.call { callee := .value (.func g), args := args.toArray, argTypes := ts }) id (some s) ⟨env, hp, nx, n⟩ K := by
  subst hq
  have hw' := Nat.le_of_ble_eq_true hw
  simp only [Bool.and_eq_true] at hr
  have w2 : widE d2 = 1 := by cases d2 <;> first | (cases h2; done) | rfl
  have w3 : widE d3 = 1 := by cases d3 <;> first | (cases h3; done) | rfl
  have ha2 : ∀ m, adE m d2 = (d2, []) := fun m => by cases d2 <;> first | (cases h2; done) | rfl
  have ha3 : ∀ m, adE m d3 = (d3, []) := fun m => by cases d3 <;> first | (cases h3; done) | rfl
  have r2 : reflE d2 = true := plain_reflE (by cases d2 <;> first | (cases h2; done) | exact hr.1.2)
  have r3 : reflE d3 = true := plain_reflE (by cases d3 <;> first | (cases h3; done) | exact hr.2)
  refine go_call_fn hp' hc ?_ (by simp [widR, w2, w3]; simp [widE]; omega) hd ?_
  · have : refless (.tup [.agg (cs ++ [.fr k (l.map f)]), d2, d3]) = true := by
      simp only [refless, List.all_cons, List.all_nil, Bool.and_true, r2, r3, refl_agg, List.all_append]
      rw [Bool.and_eq_true]
      refine ⟨List.all_eq_true.2 fun c hc => ?_, scalR_map hf l⟩
      have h1 := List.all_eq_true.1 hcs c hc
      have h2 := List.all_eq_true.1 hr.1.1 c hc
      cases c <;> first | (cases h1; done) | (cases h2; done) | rfl
    rw [this, Bool.or_true]
  have e : adopt id (.tup [.agg (cs ++ [.fr k (l.map f)]), d2, d3]) = (.tup [.agg (cs ++ [.os (id + cs.length) 0 l.length]), d2, d3], [(id + cs.length, ⟨k, true, l.map f⟩)]) := by
    simp only [adopt, adT, ha2, ha3]
    simp [adE, adL_cells hcs, flat_map hf]
  rw [e]
  exact h
end
end Go.Pv

/- Own lists handed over. -/
namespace Go.Pv
theorem purL_os {h : Nat → Option Blk} {b len k : Nat} {rows : List (List D)} {ds rs : List D} (hb : h b = some ⟨k, true, rows⟩) (hl : rows.length = len) (hr : purL h 63 ds = some rs) : purL h 64 (.os b 0 len :: ds) = some (.sl rows :: rs) := by
  show (pur h 63 _).bind _ = _
  rw [pur_os hb hl]
  simp only [Option.bind_some, hr, Option.map_some]
end Go.Pv

/- A whole list appended to an empty one; lists that are not empty compared with nil. -/
namespace Go.Pv
section
variable {P : Program} {K : X → St → Prop} {env : Env} {hp : Hp} {nx n id : Nat} {s : Tmp} {x y : Operand} {t : TypeId}
theorem go_app_sl {α : Type} {f : α → List D} {e k b : Nat} {l : List α} [hs : TSlice P t e k] (hf : ScalF f k) (h1 : evalD env x = .os b 0 0) (h2 : evalD env y = .sl (l.map f)) (hb : lkH hp b = some ⟨0, true, []⟩)
    (hc1 : ∀ a, ((f a).all cell1) = true) (hz : zeroOK P e = true) (hby : Nat.ble (P.bytesOf e) 4096 = true) (hn : l.length ≤ 1000000000) (hd : okDst n (some s) = true)
    (hk : K .normal ⟨(s, .os b 0 l.length) :: purgeE b env, (b, ⟨k, true, l.map f⟩) :: purgeH b hp, nx, n⟩) : evOp P (.call { callee := .builtin .append, args := #[x, y], argTypes := #[t, t] }) id (some s) ⟨env, hp, nx, n⟩ K := by
  have hby' : P.bytesOf e ≤ 4096 := Nat.le_of_ble_eq_true hby
  have hap : appendD P (lkH hp) t (evalD env x) (evalD env y) = some (some b, ⟨k, true, l.map f⟩) := by
    have ho : contentD (lkH hp) (.os b 0 0) = some [] := by simp [contentD, hb]
    unfold appendD
    rw [hs.u, h1, h2]
    have hx : contentD (lkH hp) (.sl (l.map f)) = some (l.map f) := rfl
    simp only [hx, ho, Option.bind_some]
    have hmul : l.length * P.bytesOf e ≤ 140737488355328 := by
      have := Nat.mul_le_mul hn hby'
      omega
    rw [if_pos]
    · rw [hb]
      simp only [Option.bind_some]
      rw [if_pos]
      · simp [hs.c, flat_map hf]
      · refine ⟨.inr (by trivial), fun r hr c hc => ?_⟩
        simp only [List.nil_append] at hr
        obtain ⟨a, _, rfl⟩ := List.mem_map.1 hr
        exact scal1_ment (List.all_eq_true.1 (hf a).2 c hc)
    · refine ⟨by rw [hs.c]; exact hs.p, fun r hr => ?_, fun r hr c hc => ?_, by simpa using hmul, by simp; omega, hz, rfl⟩
      · obtain ⟨a, _, rfl⟩ := List.mem_map.1 hr
        rw [(hf a).1, hs.c]
      · obtain ⟨a, _, rfl⟩ := List.mem_map.1 hr
        exact List.all_eq_true.1 (hc1 a) c hc
  refine go_append_on hap hd ?_
  have e : (⟨k, true, l.map f⟩ : Blk).rows.length = l.length := by simp
  rw [e]
  exact hk

theorem go_nileq_sl {α : Type} {f : α → List D} {e k : Nat} {l : List α} {r : TypeId} [hs : TSlice P t e k] (h : evalD env x = .sl (l.map f)) (hne : 0 < l.length) (hd : okDst n (some s) = true) (hk : K .normal ⟨(s, .bool false) :: env, hp, nx, n⟩) :
    evOp P (.binOp .eql t x (.const (.slice none 0 0)) r) id (some s) ⟨env, hp, nx, n⟩ K := by
  refine go_nilcmp (bs := [false]) ?_ rfl ?_ rfl hd ?_
  · simp only [op0, h]; rfl
  · simp only [nilB, nilT, hs.u, h, nilS]
    have : (l.map f).isEmpty = false := by
      cases l with
      | nil => simp at hne
      | cons a l => rfl
    rw [this]; rfl
  · intro b hb
    simp only [List.mem_singleton] at hb
    subst hb
    exact hk
end
end Go.Pv

/- Structs whose last cell is a nil list, as results. -/
namespace Go.Pv
section
variable {P : Program} {K : X → St → Prop} {env : Env} {hp : Hp} {nx n id : Nat}
theorem finL_nils {h hX : Nat → Option Blk} {k : Nat} : ∀ {cs tl tr : List D} {ss : List Src}, cs.all cellP = true → finL h hX ss tl tr →
    finL h hX (cs.map (fun _ => Src.pure) ++ .nil :: ss) (cs ++ .nilsl :: tl) (cs ++ .fr k [] :: tr)
  | [], _, _, _, _, ht => ⟨⟨rfl, k, rfl⟩, ht⟩
  | c :: cs, _, _, _, hc, ht => by
    simp only [List.all_cons, Bool.and_eq_true] at hc
    exact ⟨pur_cellP (m := 63) hc.1, finL_nils hc.2 ht⟩
theorem frsOf_nils {ss : List Src} : ∀ (cs : List D), frsOf (cs.map (fun _ => Src.pure) ++ .nil :: ss) = frsOf ss
  | [] => rfl
  | c :: cs => by simp only [List.map_cons, List.cons_append, frsOf]; exact frsOf_nils cs
theorem fin_agn3 {r1 r2 r3 : ResultVar} {cs : List D} {k : Nat} {d2 d3 : D} (h : resD P ⟨env, hp, nx, n⟩ r1 = some (.agg (cs ++ [.nilsl]))) (hc : cs.all cellP = true) (h2 : resD P ⟨env, hp, nx, n⟩ r2 = some d2) (hs : cellP d2 = true) (h3 : resD P ⟨env, hp, nx, n⟩ r3 = some d3) (hs3 : cellP d3 = true) :
    Fin P [r1, r2, r3] ⟨env, hp, nx, n⟩ (.tup [.agg (cs ++ [.fr k []]), d2, d3]) := by
  have hd2 : cellsD d2 = [d2] := by cases d2 <;> first | (cases hs; done) | rfl
  have hd3 : cellsD d3 = [d3] := by cases d3 <;> first | (cases hs3; done) | rfl
  refine .inr ⟨cs.map (fun _ => Src.pure) ++ [.nil, .pure, .pure], [.agg (cs ++ [.nilsl]), d2, d3], [.agg (cs ++ [.fr k []]), d2, d3], by simp [h, h2, h3], by rw [frsOf_nils]; simp [frsOf], ?_, rfl, fun h => by simp at h, by simp [isCell, cellsD], ?_⟩
  · simp only [List.flatMap_cons, List.flatMap_nil, List.append_nil, cells_agg, hd2, hd3, List.append_assoc, List.cons_append, List.nil_append]
    exact finL_nils hc ⟨pur_cellP (m := 63) hs, pur_cellP (m := 63) hs3, trivial⟩
  · simp only [List.flatMap_cons, List.flatMap_nil, List.append_nil, cells_agg, hd2, hd3, List.all_append, List.all_cons, List.all_nil, Bool.and_true, Bool.and_eq_true]
    exact ⟨⟨List.all_eq_true.2 fun c h => isCell_cellP (List.all_eq_true.1 hc c h), rfl⟩, isCell_cellP hs, isCell_cellP hs3⟩
/-- Two structs whose last cells are own lists, handed over. -/
theorem purL_agf_agf {h : Nat → Option Blk} {b len k b2 len2 k2 : Nat} {rows rows2 : List (List D)} {cs cs2 : List D} (hb : h b = some ⟨k, true, rows⟩) (hl : rows.length = len) (hc : cs.all cellP = true) (hn : Nat.ble cs.length 40 = true) (hb2 : h b2 = some ⟨k2, true, rows2⟩) (hl2 : rows2.length = len2) (hc2 : cs2.all cellP = true) (hn2 : Nat.ble cs2.length 40 = true) :
    purL h 64 [.agg (cs ++ [.os b 0 len]), .agg (cs2 ++ [.os b2 0 len2])] = some [.agg (cs ++ [.sl rows]), .agg (cs2 ++ [.sl rows2])] := by
  have hn2' := Nat.le_of_ble_eq_true hn2
  refine purL_agf hb hl hc hn ?_
  have e : pur h 62 (.agg (cs2 ++ [.os b2 0 len2])) = some (.agg (cs2 ++ [.sl rows2])) := by
    show (purL h 61 _).map D.agg = _
    rw [purL_cells hb2 hl2 (by omega) hc2]
    rfl
  show (pur h 62 _).bind _ = _
  rw [e]
  rfl
/-- A struct whose last cell is an own list, handed over behind another value. -/
theorem purL_agf2 {h : Nat → Option Blk} {b len k : Nat} {rows : List (List D)} {d d' : D} {cs ds rs : List D} (hd : pur h 63 d = some d') (hb : h b = some ⟨k, true, rows⟩) (hl : rows.length = len) (hc : cs.all cellP = true) (hn : Nat.ble cs.length 40 = true) (hr : purL h 62 ds = some rs) :
    purL h 64 (d :: .agg (cs ++ [.os b 0 len]) :: ds) = some (d' :: .agg (cs ++ [.sl rows]) :: rs) := by
  have hn' := Nat.le_of_ble_eq_true hn
  have e : pur h 62 (.agg (cs ++ [.os b 0 len])) = some (.agg (cs ++ [.sl rows])) := by
    show (purL h 61 _).map D.agg = _
    rw [purL_cells hb hl (by omega) hc]
    rfl
  have e2 : purL h 63 (.agg (cs ++ [.os b 0 len]) :: ds) = some (.agg (cs ++ [.sl rows]) :: rs) := by
    show (pur h 62 _).bind _ = _
    rw [e]
    simp only [Option.bind_some, hr, Option.map_some]
  show (pur h 63 d).bind _ = _
  rw [hd]
  simp only [Option.bind_some, e2, Option.map_some]
end
end Go.Pv

/- A call that hands over own memory and returns a struct whose last cell is a new list. -/
namespace Go.Pv
section
variable {P : Program} {K : X → St → Prop} {env : Env} {hp : Hp} {nx n id : Nat} {s : Tmp}
theorem go_fn_agfr {α : Type} {f : α → List D} {k q : Nat} {l : List α} {cs : List D} {args : List Operand} {ts : Array TypeId} {g : FuncId} {args' : List D} (hp' : purL (lkH hp) 64 (args.map (evalD env)) = some args') (hc : Contract P g args' (.ret (.agg (cs ++ [.fr k (l.map f)])))) (hf : ScalF f k) (hcs : cs.all cellP = true) (hq : cs.length = q) (hw : Nat.ble q 31 = true)
    (hr : cs.all scal1 = true) (hd : okDst n (some s) = true)
    (h : K .normal ⟨(s, .agg (cs ++ [.os (id + q) 0 l.length])) :: env, (id + q, ⟨k, true, l.map f⟩) :: hp, nx, n⟩) : evOp P (.call { callee := .value (.func g), args := args.toArray, argTypes := ts }) id (some s) ⟨env, hp, nx, n⟩ K := by
  subst hq
  have hw' := Nat.le_of_ble_eq_true hw
  refine go_call_fn hp' hc ?_ (by simp [widR, widE]; omega) hd ?_
  · have : refless (.agg (cs ++ [.fr k (l.map f)])) = true := by
      show (cs ++ [D.fr k (l.map f)]).all reflC = true
      rw [List.all_append, Bool.and_eq_true]
      refine ⟨List.all_eq_true.2 fun c hc => ?_, by simp only [List.all_cons, List.all_nil, Bool.and_true]; exact scalR_map hf l⟩
      have h1 := List.all_eq_true.1 hcs c hc
      have h2 := List.all_eq_true.1 hr c hc
      cases c <;> first | (cases h1; done) | (cases h2; done) | rfl
    rw [this, Bool.or_true]
  have e : adopt id (.agg (cs ++ [.fr k (l.map f)])) = (.agg (cs ++ [.os (id + cs.length) 0 l.length]), [(id + cs.length, ⟨k, true, l.map f⟩)]) := by
    simp [adopt, adE, adL_cells hcs, flat_map hf]
  rw [e]
  exact h
end
end Go.Pv

/- Scopes and labels. -/
namespace Go.Pv
section
variable {P : Program} {E : St → St → Prop} {K : X → St → Prop} {st : St}
theorem go_scope {c : Code} (h : evG E P c K st) : evG E P (.scope c) K st := h
theorem go_label {l : Nat} (h : K .normal st) : evG E P (.label l) K st := h
end
section
variable {P : Program} {E : St → St → Prop} {K : X → St → Prop} {env : Env} {hp : Hp} {nx n id : Nat} {s : Tmp} {x y u v : Operand} {t : TypeId}
theorem go_bs4_int {e : Nat} {z : D} {k k2 k3 k4 : IntKind} {a b c d : Int} [hs : TSlice P t e 1] [hz : TZero P e z] (h1 : evalD env x = .int k a) (h2 : evalD env y = .int k2 b) (h3 : evalD env u = .int k3 c) (h4 : evalD env v = .int k4 d) (hzl : (cellsD z).length = 1) (hd : okDst n (some s) = true)
    (hk : K .normal ⟨(s, .os id 0 4) :: env, (id, ⟨1, true, [[.int k a], [.int k2 b], [.int k3 c], [.int k4 d]]⟩) :: hp, nx, n⟩) : evOp P (.buildSlice t 4 #[(0, x), (1, y), (2, u), (3, v)]) id (some s) ⟨env, hp, nx, n⟩ K := by
  have ho : op1 P (evalD env) (.buildSlice t 4 #[(0, x), (1, y), (2, u), (3, v)]) = some (false, ⟨1, true, [[.int k a], [.int k2 b], [.int k3 c], [.int k4 d]]⟩) := by
    simp only [op1, hs.u, hz.h, Option.bind_some]
    rw [if_neg (by decide), if_pos ⟨hz.k, by rw [hzl, hs.c], by rw [hs.c]; decide, by rw [hs.c]; decide⟩]
    simp only [List.map_cons, List.map_nil, h1, h2, h3, h4, hs.c]
    rfl
  unfold evOp
  simp only [op0, ho]
  exact ⟨hd, hk⟩
end
end Go.Pv

/- A struct with an own list, handed over behind two values. -/
namespace Go.Pv
theorem purL_agf3 {h : Nat → Option Blk} {b len k : Nat} {rows : List (List D)} {d d' u u' : D} {cs ds rs : List D} (hd : pur h 63 d = some d') (hu : pur h 62 u = some u') (hb : h b = some ⟨k, true, rows⟩) (hl : rows.length = len) (hc : cs.all cellP = true) (hn : Nat.ble cs.length 40 = true) (hr : purL h 61 ds = some rs) :
    purL h 64 (d :: u :: .agg (cs ++ [.os b 0 len]) :: ds) = some (d' :: u' :: .agg (cs ++ [.sl rows]) :: rs) := by
  have hn' := Nat.le_of_ble_eq_true hn
  have e : pur h 61 (.agg (cs ++ [.os b 0 len])) = some (.agg (cs ++ [.sl rows])) := by
    show (purL h 60 _).map D.agg = _
    rw [purL_cells hb hl (by omega) hc]
    rfl
  have e2 : purL h 62 (.agg (cs ++ [.os b 0 len]) :: ds) = some (.agg (cs ++ [.sl rows]) :: rs) := by
    show (pur h 61 _).bind _ = _
    rw [e]
    simp only [Option.bind_some, hr, Option.map_some]
  have e3 : purL h 63 (u :: .agg (cs ++ [.os b 0 len]) :: ds) = some (u' :: .agg (cs ++ [.sl rows]) :: rs) := by
    show (pur h 62 u).bind _ = _
    rw [hu]
    simp only [Option.bind_some, e2, Option.map_some]
  show (pur h 63 d).bind _ = _
  rw [hd]
  simp only [Option.bind_some, e3, Option.map_some]
end Go.Pv

/- Lists of three and four structs; parts of own lists; calls that write into an own list. -/
namespace Go.Pv
class TArrE (P : Program) (t : TypeId) (len : outParam Nat) (e : outParam TypeId) (k : outParam Nat) : Prop where
  u : P.underlying t = some (.array len e)
  c : P.cellsOf e = k
  p : 0 < k
section
variable {P : Program} {E : St → St → Prop} {K : X → St → Prop} {env : Env} {hp : Hp} {nx n id : Nat} {s : Tmp} {x y u v f : Operand} {t : TypeId}

theorem go_bs3_agg {e k : Nat} {z : D} {c1 c2 c3 : List D} {fl : Bool} [hs : TSlice P t e k] [hz : TZero P e z] (h1 : evalD env x = .agg c1) (h2 : evalD env y = .agg c2) (h3 : evalD env u = .agg c3) (hzl : (cellsD z).length = k) (hl1 : c1.length = k) (hl2 : c2.length = k) (hl3 : c3.length = k)
    (hfl : flatRows [c1, c2, c3] = fl) (hsm : Nat.ble k 1000000 = true) (hd : okDst n (some s) = true)
    (hk : K .normal ⟨(s, .os id 0 3) :: env, (id, ⟨k, fl, [c1, c2, c3]⟩) :: hp, nx, n⟩) : evOp P (.buildSlice t 3 #[(0, x), (1, y), (2, u)]) id (some s) ⟨env, hp, nx, n⟩ K := by
  subst hfl
  have hsm := Nat.le_of_ble_eq_true hsm
  have ho : op1 P (evalD env) (.buildSlice t 3 #[(0, x), (1, y), (2, u)]) = some (false, ⟨k, flatRows [c1, c2, c3], [c1, c2, c3]⟩) := by
    simp only [op1, hs.u, hz.h, Option.bind_some]
    rw [if_neg (by decide), if_pos ⟨hz.k, by rw [hzl, hs.c], by rw [hs.c]; exact hs.p, by rw [hs.c]; omega⟩]
    simp only [List.map_cons, List.map_nil, h1, h2, h3, fillRows, List.replicate, List.length_cons, List.length_nil, List.length_set, cellsD]
    rw [if_pos ⟨rfl, by rw [hl1, hs.c], by omega⟩, if_pos ⟨rfl, by rw [hl2, hs.c], by omega⟩, if_pos ⟨rfl, by rw [hl3, hs.c], by omega⟩]
    simp [hs.c]
  unfold evOp
  simp only [op0, ho]
  exact ⟨hd, hk⟩

theorem go_bs4_agg {e k : Nat} {z : D} {c1 c2 c3 c4 : List D} {fl : Bool} [hs : TSlice P t e k] [hz : TZero P e z] (h1 : evalD env x = .agg c1) (h2 : evalD env y = .agg c2) (h3 : evalD env u = .agg c3) (h4 : evalD env v = .agg c4) (hzl : (cellsD z).length = k) (hl1 : c1.length = k) (hl2 : c2.length = k) (hl3 : c3.length = k) (hl4 : c4.length = k)
    (hfl : flatRows [c1, c2, c3, c4] = fl) (hsm : Nat.ble k 1000000 = true) (hd : okDst n (some s) = true)
    (hk : K .normal ⟨(s, .os id 0 4) :: env, (id, ⟨k, fl, [c1, c2, c3, c4]⟩) :: hp, nx, n⟩) : evOp P (.buildSlice t 4 #[(0, x), (1, y), (2, u), (3, v)]) id (some s) ⟨env, hp, nx, n⟩ K := by
  subst hfl
  have hsm := Nat.le_of_ble_eq_true hsm
  have ho : op1 P (evalD env) (.buildSlice t 4 #[(0, x), (1, y), (2, u), (3, v)]) = some (false, ⟨k, flatRows [c1, c2, c3, c4], [c1, c2, c3, c4]⟩) := by
    simp only [op1, hs.u, hz.h, Option.bind_some]
    rw [if_neg (by decide), if_pos ⟨hz.k, by rw [hzl, hs.c], by rw [hs.c]; exact hs.p, by rw [hs.c]; omega⟩]
    simp only [List.map_cons, List.map_nil, h1, h2, h3, h4, fillRows, List.replicate, List.length_cons, List.length_nil, List.length_set, cellsD]
    rw [if_pos ⟨rfl, by rw [hl1, hs.c], by omega⟩, if_pos ⟨rfl, by rw [hl2, hs.c], by omega⟩, if_pos ⟨rfl, by rw [hl3, hs.c], by omega⟩, if_pos ⟨rfl, by rw [hl4, hs.c], by omega⟩]
    simp [hs.c]
  unfold evOp
  simp only [op0, ho]
  exact ⟨hd, hk⟩

/-- An element of an array that is a value. -/
theorem go_index_agg {len k : Nat} {e : TypeId} {sh' : Sh} {cs : List D} {ik : IntKind} {i : Int} {d : D} [ha : TArrE P t len e k] [hs : TSh P e sh'] (h : evalD env x = .agg cs) (h2 : evalD env y = .int ik i) (hd : okDst n (some s) = true) (hi : 0 ≤ i ∧ i < len)
    (hc : fromCells sh' (cs.drop (i.toNat * k)) = some d) (hk : K .normal ⟨(s, d) :: env, hp, nx, n⟩) : evOp P (.index t x y) id (some s) ⟨env, hp, nx, n⟩ K := by
  rw [evOp_index]
  refine ⟨d, ?_, hd, hk⟩
  rw [h, h2]
  simp only [indexD, ha.u]
  rw [if_pos ⟨hi.1, hi.2, by rw [ha.c]; exact ha.p⟩, ha.c, hs.h]
  exact hc

/-- The first elements of a list of one's own. -/
theorem go_take_os {e : TypeId} {k b off len : Nat} {blk : Blk} {ik : IntKind} {i : Int} [hs : TSlice P t e k] (h : evalD env x = .os b off len) (h2 : evalD env y = .int ik i) (hb : lkH hp b = some blk) (hkk : blk.k = k) (hd : okDst n (some s) = true)
    (hi : 0 ≤ i ∧ i ≤ len) (hk : K .normal ⟨(s, .os b off i.toNat) :: env, hp, nx, n⟩) : evOp P (.slice t x none (some y) none) id (some s) ⟨env, hp, nx, n⟩ K := by
  rw [evOp_slice]
  refine ⟨.os b off i.toNat, ?_, hd, hk⟩
  simp only [Option.map_none, Option.map_some, h, h2, sliceD, hs.u, boundD, hb]
  rw [if_pos hi.1]
  simp only []
  rw [if_pos]
  · simp
  · exact ⟨by omega, by omega, by rw [hs.c]; exact hs.p, by rw [hkk, hs.c]⟩

/-- A region that has a call in it that writes into an own list. -/
theorem go_regionM {i : Nat} {l : List Oper} (h : evOpsM P l l nx ⟨env, hp, nx, n⟩ K) : evG E P (.region i l.toArray false) K ⟨env, hp, nx, n⟩ := .inr h

def kOpsM (P : Program) (all rest : List Oper) (id : Nat) (K : X → St → Prop) : X → St → Prop
  | .normal, st => evOpsM P all rest id st K
  | x, st => K x st
theorem goM_op {all rest : List Oper} {dst : Option Tmp} {op : Op} {ty : TypeId} {pos : String} {af : Array Edge} (h : evOp P op id dst ⟨env, hp, nx, n⟩ (kOpsM P all rest (id + 32) K)) :
    evOpsM P all ({ dst := dst, op := op, type := ty, pos := pos, after := af, guard := none } :: rest) id ⟨env, hp, nx, n⟩ K := .inl (evOp_mono (fun x st hx => by cases x <;> exact hx) h)
theorem goM_next {all rest : List Oper} (h : evOpsM P all rest id ⟨env, hp, nx, n⟩ K) : kOpsM P all rest id K .normal ⟨env, hp, nx, n⟩ := h
theorem goM_nil {all : List Oper} (h : K .normal ⟨env, hp, id, n⟩) : evOpsM P all [] id ⟨env, hp, nx, n⟩ K := h
theorem goM_call {all rest : List Oper} {dst : Option Tmp} {ty : TypeId} {pos : String} {af : Array Edge} {args : List Operand} {ts : Array TypeId} {g : FuncId} {ds args' : List D} {b : Nat} {blk blk' : Blk} {r r' : D} (ha : args.map (evalD env) = ds)
    (hb : lkH hp b = some blk) (hs : scalR blk.rows = true) (hin : inL b ds = some args') (hos : hasOs b ds = true)
    (hc : ContractM P g args' blk r blk') (hr : outR b r = r') (hd : okDst n dst = true) (h : evOpsM P all rest (id + 32) ⟨putE dst r' env, updH b blk' hp, nx, n⟩ K) :
    evOpsM P all ({ dst := dst, op := .call { callee := .value (.func g), args := args.toArray, argTypes := ts }, type := ty, pos := pos, after := af, guard := none } :: rest) id ⟨env, hp, nx, n⟩ K := by
  subst ha hr
  refine .inr ⟨rfl, .inl ?_⟩
  exact ⟨b, blk, args', r, blk', hb, hs, by simpa using hin, by simpa using hos, hc, hd, h⟩
/-- 'clear' of a part of an own list. -/
theorem goM_clear {all rest : List Oper} {dst : Option Tmp} {ty : TypeId} {pos : String} {af : Array Edge} {x : Operand} {t e : TypeId} {k b off len k' : Nat} {rows : List (List D)} {fl : Bool} [hs : TSlice P t e k] (ha : evalD env x = .os b off len)
    (hb : lkH hp b = some ⟨k', fl, rows⟩) (hc : clrOK P e k' = true) (hsr : scalR rows = true) (hle : off + len ≤ rows.length) (hd : okDst n dst = true) (h : evOpsM P all rest (id + 32) ⟨putE dst (.tup []) env, updH b ⟨k', fl, rows.take off⟩ hp, nx, n⟩ K) :
    evOpsM P all ({ dst := dst, op := .call { callee := .builtin .clear, args := #[x], argTypes := #[t] }, type := ty, pos := pos, after := af, guard := none } :: rest) id ⟨env, hp, nx, n⟩ K :=
  .inr ⟨rfl, .inr (.inl ⟨x, t, e, b, off, len, ⟨k', fl, rows⟩, rfl, rfl, hs.u, hc, ha, hb, hsr, hle, hd, h⟩)⟩
/-- Maps of one kind of keys. -/
class TMap (P : Program) (t : TypeId) (td : outParam TypeDesc) (z : outParam D) : Prop where
  h : ∃ kt et, P.underlying t = some (.map kt et) ∧ P.underlying kt = some td ∧ ((P.info? et).bind (·.zero)).map ofV = some z
theorem goM_makeMap {all rest : List Oper} {dst : Option Tmp} {ty : TypeId} {pos : String} {af : Array Edge} {t : TypeId} (hd : okDst n dst = true) (h : evOpsM P all rest (id + 32) ⟨putE dst (.om id) env, (id, ⟨0, true, []⟩) :: hp, nx, n⟩ K) :
    evOpsM P all ({ dst := dst, op := .makeMap t none, type := ty, pos := pos, after := af, guard := none } :: rest) id ⟨env, hp, nx, n⟩ K :=
  .inr ⟨rfl, .inr (.inr (.inl ⟨hd, h⟩))⟩
theorem goM_mapPut {all rest : List Oper} {dst : Option Tmp} {ty : TypeId} {pos : String} {af : Array Edge} {t : TypeId} {m x y : Operand} {b k' : Nat} {rows : List (List D)} {td : TypeDesc} {z : D} [ht : TMap P t td z] (ha : evalD env m = .om b)
    (hb : lkH hp b = some ⟨k', true, rows⟩) {dk dv : D} (hk : evalD env x = dk) (hv : evalD env y = dv) (hok : keyOK td dk = true) (hval : (valOf dv).isSome = true) (hf : findR td dk rows = some none) (hd : okDst n dst = true)
    (h : evOpsM P all rest (id + 32) ⟨putE dst .skip env, updH b ⟨0, true, rows ++ [[dk, dv]]⟩ hp, nx, n⟩ K) :
    evOpsM P all ({ dst := dst, op := .mapUpdate t m x y, type := ty, pos := pos, after := af, guard := none } :: rest) id ⟨env, hp, nx, n⟩ K := by
  obtain ⟨kt, et, h1, h2, _⟩ := ht.h
  subst hk hv
  exact .inr ⟨rfl, .inr (.inr (.inl ⟨b, rows, k', kt, et, td, h1, h2, ha, hb, hok, hval, hf, hd, h⟩))⟩
/-- A map's value under a key. -/
theorem go_lookup {s : Tmp} {t : TypeId} {m x : Operand} {b k' : Nat} {fl : Bool} {rows : List (List D)} {td : TypeDesc} {z dk d : D} {r : Option D} [ht : TMap P t td z] (ha : evalD env m = .om b)
    (hb : lkH hp b = some ⟨k', fl, rows⟩) (hk : evalD env x = dk) (hok : keyOK td dk = true) (hf : findR td dk rows = some r) (hr : r.getD z = d) (hd : okDst n (some s) = true)
    (h : K .normal ⟨(s, d) :: env, hp, nx, n⟩) : evOp P (.lookup t m x false) id (some s) ⟨env, hp, nx, n⟩ K := by
  obtain ⟨kt, et, h1, h2, h3⟩ := ht.h
  subst hk hr
  rw [evOp_lookup]
  refine ⟨r.getD z, ?_, hd, h⟩
  simp only [lookupD, h1, ha, hb, Option.bind_some, h2, hok, if_true, hf]
  cases r with
  | none => simpa using h3
  | some v => rfl
end
end Go.Pv

/- The least and the greatest of three. -/
namespace Go.Pv
section
variable {P : Program} {K : X → St → Prop} {env : Env} {hp : Hp} {nx n id : Nat} {s : Tmp} {x y z : Operand}
theorem go_min3 {k k' k2 : IntKind} {a b c : Int} {ts : Array TypeId} (h1 : evalD env x = .int k a) (h2 : evalD env y = .int k' b) (h3 : evalD env z = .int k2 c) (hd : okDst n (some s) = true) (hk : K .normal ⟨(s, .int k (min (min a b) c)) :: env, hp, nx, n⟩) : evOp P (.call { callee := .builtin .min, args := #[x, y, z], argTypes := ts }) id (some s) ⟨env, hp, nx, n⟩ K := by
  have h := evOp_min (P := P) (K := K) (env := env) (hp := hp) (nx := nx) (n := n) (id := id) (dst := some s) (x := x) (xs := [y, z]) (ts := ts)
  rw [show (#[x, y, z] : Array Operand) = (x :: [y, z]).toArray from rfl, h]
  refine ⟨.int k (min (min a b) c), ?_, hd, hk⟩
  simp only [List.map_cons, List.map_nil, foldD, h1, h2, h3, min2D, Option.bind_some, Option.some.injEq, D.int.injEq, true_and]
  split <;> split <;> omega
theorem go_max3 {k k' k2 : IntKind} {a b c : Int} {ts : Array TypeId} (h1 : evalD env x = .int k a) (h2 : evalD env y = .int k' b) (h3 : evalD env z = .int k2 c) (hd : okDst n (some s) = true) (hk : K .normal ⟨(s, .int k (max (max a b) c)) :: env, hp, nx, n⟩) : evOp P (.call { callee := .builtin .max, args := #[x, y, z], argTypes := ts }) id (some s) ⟨env, hp, nx, n⟩ K := by
  have h := evOp_max (P := P) (K := K) (env := env) (hp := hp) (nx := nx) (n := n) (id := id) (dst := some s) (x := x) (xs := [y, z]) (ts := ts)
  rw [show (#[x, y, z] : Array Operand) = (x :: [y, z]).toArray from rfl, h]
  refine ⟨.int k (max (max a b) c), ?_, hd, hk⟩
  simp only [List.map_cons, List.map_nil, foldD, h1, h2, h3, max2D, Option.bind_some, Option.some.injEq, D.int.injEq, true_and]
  split <;> split <;> omega
end
end Go.Pv
namespace Go.Pv
section
variable {P : Program} {K : X → St → Prop} {env : Env} {hp : Hp} {nx n id : Nat} {s : Tmp} {x : Operand} {t t' : TypeId}
/-- A number, made an int. -/
theorem go_conv64 {k0 k : IntKind} {a : Int} [h0 : TInt P t k0] [h1 : TInt P t' .i64] (h : evalD env x = .int k a) (hd : okDst n (some s) = true) (hr : -9223372036854775808 ≤ a ∧ a ≤ 9223372036854775807) (hk : K .normal ⟨(s, .int .i64 a) :: env, hp, nx, n⟩) : evOp P (.convert t t' x) id (some s) ⟨env, hp, nx, n⟩ K := by
  rw [evOp_convert]
  refine ⟨.int .i64 a, ?_, hd, hk⟩
  rw [h]
  simp only [convD, h1.h, h0.h, Option.isSome_some, if_true]
  rw [wrap64 hr]
end
end Go.Pv

/- The root of a small number, rounded, made whole: it is small. Plain. -/
namespace Go.Pv.Sq
open Ieee

theorem binade_eq : double.binade = 4503599627370496 := by decide
theorem inf_eq : double.infRung = 9218868437227405312 := by decide
theorem sw_eq : double.signWeight = 9223372036854775808 := by decide
theorem lp_eq : double.leastPlace = -1074 := by decide
theorem read_lo {r : Nat} (h : r < 4503599627370496) : double.read r = .number false r (-1074) := by
  unfold Format.read
  rw [binade_eq, sw_eq, lp_eq]
  simp only
  rw [Nat.mod_eq_of_lt (show r < 9223372036854775808 by omega), if_pos h, Nat.div_eq_of_lt (by omega)]
  rfl
theorem read_hi {r : Nat} (h1 : 4503599627370496 ≤ r) (h2 : r < 9218868437227405312) : double.read r = .number false (4503599627370496 + r % 4503599627370496) (-1074 + (r / 4503599627370496 - 1 : Nat)) := by
  unfold Format.read
  rw [binade_eq, sw_eq, lp_eq, inf_eq]
  simp only
  rw [Nat.mod_eq_of_lt (show r < 9223372036854775808 by omega), if_neg (by omega), if_pos h2, Nat.div_eq_of_lt (by omega)]
  rfl
theorem log2_bd {n : Nat} (h : n ≠ 0) : 2 ^ n.log2 ≤ n ∧ n < 2 ^ (n.log2 + 1) := ⟨Nat.log2_self_le h, Nat.lt_log2_self⟩
theorem cut_even_le {n drop k : Nat} (h : n < 2 ^ (drop + k)) : Toward.even.cut false n drop ≤ 2 ^ k := by
  unfold Toward.cut
  simp only
  generalize hg : (1 <<< min drop (n.log2 + 2) : Nat) = gap
  rw [Nat.one_shiftLeft] at hg
  have hlow : n / gap < 2 ^ k := by
    rw [← hg]
    by_cases hd : drop ≤ n.log2 + 2
    · rw [Nat.min_eq_left hd]
      rw [Nat.div_lt_iff_lt_mul (Nat.two_pow_pos _), Nat.mul_comm, ← Nat.pow_add]
      exact h
    · rw [Nat.min_eq_right (by omega)]
      rw [Nat.div_eq_of_lt]
      · exact Nat.two_pow_pos _
      · by_cases h0 : n = 0
        · subst h0; exact Nat.two_pow_pos _
        · exact Nat.lt_of_lt_of_le (log2_bd h0).2 (Nat.pow_le_pow_right (by omega) (by omega))
  have : ∀ b : Bool, b.toNat ≤ 1 := fun b => by cases b <;> decide
  have := this (decide (gap < 2 * (n % gap)) || gap == 2 * (n % gap) && n / gap % 2 == 1)
  omega
theorem nearest_bd {mag : Nat} {place last : Int} (h0 : mag ≠ 0) (hl : last = place + mag.log2 - 52) (h1 : -1074 ≤ last) (h2 : last ≤ 900) :
    ∃ kept : Nat, kept ≤ 9007199254740992 ∧ double.nearest false mag place = (last + 1074).toNat * 4503599627370496 + kept := by
  unfold Format.nearest
  rw [if_neg h0]
  have hm : max (place + (mag.log2 : Int) - (double.fractionBits : Nat)) double.leastPlace = last := by
    rw [lp_eq]
    show max (place + (mag.log2 : Int) - ((52 : Nat) : Int)) (-1074) = last
    omega
  simp only [hm]
  rw [binade_eq, inf_eq, lp_eq]
  have hk : Toward.even.cut false (mag <<< (place - last).toNat) (last - place).toNat ≤ 2 ^ 53 := by
    apply cut_even_le
    rw [Nat.shiftLeft_eq]
    have := (log2_bd h0).2
    by_cases hp : last ≤ place
    · have e1 : (last - place).toNat = 0 := by omega
      have e2 : mag.log2 + 1 + (place - last).toNat = 53 := by omega
      rw [e1, Nat.zero_add, ← e2, Nat.pow_add]
      exact Nat.mul_lt_mul_of_pos_right this (Nat.two_pow_pos _)
    · have e1 : (place - last).toNat = 0 := by omega
      have e2 : (last - place).toNat + 53 = mag.log2 + 1 := by omega
      rw [e1, e2, Nat.pow_zero, Nat.mul_one]
      exact this
  generalize Toward.even.cut false (mag <<< (place - last).toNat) (last - place).toNat = kept at hk
  have hk' : kept ≤ 9007199254740992 := by simpa using hk
  refine ⟨kept, hk', ?_⟩
  rw [show (last - -1074).toNat = (last + 1074).toNat by omega, Nat.min_eq_left (by
    have : (last + 1074).toNat ≤ 1974 := by omega
    generalize (last + 1074).toNat = u at this ⊢
    omega)]
  simp [Format.word]
/-- Made whole, towards zero. -/
theorem toInt_bd {m : Nat} {p : Int} (hm : m < 9007199254740992) (hp : p ≤ -29) : ∃ n : Nat, (Datum.number false m p).toInt .zero = some (n : Int) ∧ n ≤ 16777216 := by
  refine ⟨Toward.zero.cut false (m <<< p.toNat) (-p).toNat, ?_, ?_⟩
  · simp [Datum.toInt, Datum.integral, signed]
  · have e : p.toNat = 0 := by omega
    rw [e, Nat.shiftLeft_zero]
    unfold Toward.cut
    simp only [Bool.toNat_false, Nat.add_zero]
    rw [Nat.one_shiftLeft]
    by_cases hd : (-p).toNat ≤ m.log2 + 2
    · rw [Nat.min_eq_left hd]
      have : 2 ^ 29 ≤ 2 ^ (-p).toNat := Nat.pow_le_pow_right (by omega) (by omega)
      have h2 := Nat.div_le_div_left (a := m) this (by decide)
      have h3 : m / 2 ^ 29 ≤ 16777216 := by omega
      omega
    · rw [Nat.min_eq_right (by omega)]
      rw [Nat.div_eq_of_lt]
      · omega
      · by_cases h0 : m = 0
        · subst h0; exact Nat.two_pow_pos _
        · exact Nat.lt_of_lt_of_le (log2_bd h0).2 (Nat.pow_le_pow_right (by omega) (by omega))
theorem back_bd {mag : Nat} {place : Int} (hm : mag.log2 ≤ 56) (h1 : -900 ≤ place) (h2 : place ≤ -34) :
    ∃ n : Nat, (double.read (double.nearest false mag place)).toInt .zero = some (n : Int) ∧ n ≤ 16777216 := by
  by_cases h0 : mag = 0
  · subst h0
    have : double.nearest false 0 place = 0 := by simp [Format.nearest, Format.word]
    rw [this, read_lo (by decide)]
    exact toInt_bd (by decide) (by decide)
  · obtain ⟨kept, hk, he⟩ := nearest_bd (last := place + mag.log2 - 52) h0 rfl (by omega) (by omega)
    rw [he]
    generalize hr : (place + (mag.log2 : Int) - 52 + 1074).toNat * 4503599627370496 + kept = r
    have hr' : r ≤ 1046 * 4503599627370496 := by
      have : (place + (mag.log2 : Int) - 52 + 1074).toNat ≤ 1044 := by omega
      have := Nat.mul_le_mul_right 4503599627370496 this
      omega
    by_cases hlo : r < 4503599627370496
    · rw [read_lo hlo]
      exact toInt_bd (by omega) (by decide)
    · rw [read_hi (by omega) (by omega)]
      exact toInt_bd (by omega) (by omega)
theorem rootFrom_sq (n : Nat) : ∀ (todo root : Nat), root * root ≤ n → Datum.rootFrom n todo root * Datum.rootFrom n todo root ≤ n
  | 0, root, h => h
  | todo + 1, root, h => by
    simp only [Datum.rootFrom]
    split
    · rename_i h'; exact rootFrom_sq n todo _ h'
    · exact rootFrom_sq n todo _ h
/-- The root of a word that stands for a number below 2 ^ 43. -/
theorem root_bd {kept : Nat} {i : Int} (hk : kept ≠ 0) (hk2 : kept < 9007199254740992) (h1 : -60 ≤ i) (h2 : i ≤ -9) :
    ∃ (mag : Nat) (place : Int), (Datum.number false kept i).root 54 = some (.number false mag place) ∧ mag.log2 ≤ 56 ∧ -900 ≤ place ∧ place ≤ -34 := by
  have hl : kept.log2 ≤ 52 := by
    have := (log2_bd hk).1
    rcases Nat.lt_or_ge kept.log2 53 with h | h
    · omega
    · have h3 : 2 ^ 53 ≤ 2 ^ kept.log2 := Nat.pow_le_pow_right (by omega) h
      omega
  simp only [Datum.root, if_neg hk, Bool.false_eq_true, if_false]
  generalize hmo : 2 * 54 - kept.log2 + ((i - ((2 * 54 - kept.log2 : Nat) : Int)) % 2).toNat = more
  have hm1 : 56 ≤ more ∧ more + kept.log2 ≤ 109 ∧ more ≤ 110 := by omega
  generalize hn : kept <<< more = n
  have hn' : n < 2 ^ 110 := by
    rw [← hn, Nat.shiftLeft_eq]
    have h4 : kept * 2 ^ more < 2 ^ (kept.log2 + 1) * 2 ^ more := Nat.mul_lt_mul_of_pos_right (log2_bd hk).2 (Nat.two_pow_pos _)
    rw [← Nat.pow_add] at h4
    exact Nat.lt_of_lt_of_le h4 (Nat.pow_le_pow_right (by omega) (by omega))
  have hw := rootFrom_sq n (n.log2 / 2 + 1) 0 (by omega)
  generalize Datum.rootFrom n (n.log2 / 2 + 1) 0 = whole at hw
  have hw2 : whole < 2 ^ 55 := by
    rcases Nat.lt_or_ge whole (2 ^ 55) with h | h
    · exact h
    · have := Nat.mul_le_mul h h
      rw [← Nat.pow_add] at this
      omega
  refine ⟨_, _, rfl, ?_, by omega, by omega⟩
  have hb : ∀ b : Bool, b.toNat ≤ 1 := fun b => by cases b <;> decide
  have hb := hb (whole * whole != n)
  generalize hmg : 2 * whole + (whole * whole != n).toNat = mag
  have hmag : mag < 2 ^ 57 := by omega
  by_cases hz : mag = 0
  · rw [hz]; decide
  · have := (log2_bd hz).1
    rcases Nat.lt_or_ge mag.log2 57 with h | h
    · omega
    · have h5 : 2 ^ 57 ≤ 2 ^ mag.log2 := Nat.pow_le_pow_right (by omega) h
      omega
/-- What 'int(math.Sqrt(float64(s)))' comes to. -/
theorem sqrt_small (s : Nat) (hs : s < 8796093022208) : ∃ (r n : Nat), FloatKind.f64.format.sqrt (FloatKind.f64.nearest (s : Int)) = some r ∧ (FloatKind.f64.decode r).toInt .zero = some (n : Int) ∧ n ≤ 16777216 := by
  have e : FloatKind.f64.nearest (s : Int) = double.nearest false s 0 := by
    unfold FloatKind.nearest FloatKind.encode FloatKind.format Format.write
    have : decide ((s : Int) < 0) = false := by simp
    simp only [this, Int.natAbs_natCast]
  rw [e]
  show ∃ r n, double.sqrt _ = some r ∧ (double.read r).toInt .zero = some _ ∧ _
  unfold Format.sqrt
  by_cases h0 : s = 0
  · subst h0
    have e0 : double.nearest false 0 0 = 0 := by simp [Format.nearest, Format.word]
    rw [e0, read_lo (by decide)]
    have er : (Datum.number false 0 (-1074)).root (double.fractionBits + 2) = some (.number false 0 (-1074)) := rfl
    rw [er]
    refine ⟨_, 0, rfl, ?_, by omega⟩
    have : double.write (.number false 0 (-1074)) = 0 := by simp [Format.write, Format.nearest, Format.word]
    rw [this, read_lo (by decide)]
    rfl
  · have hl : s.log2 ≤ 42 := by
      have := (log2_bd h0).1
      rcases Nat.lt_or_ge s.log2 43 with h | h
      · omega
      · have h5 : 2 ^ 43 ≤ 2 ^ s.log2 := Nat.pow_le_pow_right (by omega) h
        omega
    obtain ⟨kept, hk, he⟩ := nearest_bd (mag := s) (place := 0) (last := 0 + s.log2 - 52) h0 rfl (by omega) (by omega)
    rw [he]
    generalize hr : ((0 : Int) + (s.log2 : Int) - 52 + 1074).toNat * 4503599627370496 + kept = r
    have ha : ((0 : Int) + (s.log2 : Int) - 52 + 1074).toNat = s.log2 + 1022 := by omega
    rw [ha] at hr
    have hr1 : 1022 * 4503599627370496 ≤ r := by
      have := Nat.mul_le_mul_right 4503599627370496 (show 1022 ≤ s.log2 + 1022 by omega)
      omega
    have hr2 : r ≤ 1066 * 4503599627370496 := by
      have := Nat.mul_le_mul_right 4503599627370496 (show s.log2 + 1022 ≤ 1064 by omega)
      omega
    rw [read_hi (by omega) (by omega)]
    obtain ⟨mag, place, h1, h2, h3, h4⟩ := root_bd (kept := 4503599627370496 + r % 4503599627370496) (i := -1074 + (r / 4503599627370496 - 1 : Nat)) (by omega) (by omega) (by omega) (by omega)
    obtain ⟨n, hn, hb⟩ := back_bd h2 h3 h4
    have er : (Datum.number false (4503599627370496 + r % 4503599627370496) (-1074 + (r / 4503599627370496 - 1 : Nat))).root (double.fractionBits + 2) = some (.number false mag place) := h1
    rw [er]
    exact ⟨_, n, rfl, hn, hb⟩
end Go.Pv.Sq

/- Numbers made floats and back. -/
namespace Go.Pv
class TFloat (P : Program) (t : TypeId) : Prop where h : P.underlying t = some (.float .f64)
section
variable {P : Program} {K : X → St → Prop} {env : Env} {hp : Hp} {nx n id : Nat} {s : Tmp} {x : Operand} {t t' : TypeId}
theorem go_conv_if {k0 k : IntKind} {a : Int} [h0 : TInt P t k0] [h1 : TFloat P t'] (h : evalD env x = .int k a) (hd : okDst n (some s) = true) (hk : K .normal ⟨(s, .float .f64 (FloatKind.f64.nearest a)) :: env, hp, nx, n⟩) : evOp P (.convert t t' x) id (some s) ⟨env, hp, nx, n⟩ K := by
  rw [evOp_convert]
  refine ⟨.float .f64 (FloatKind.f64.nearest a), ?_, hd, hk⟩
  rw [h]
  simp only [convD, h1.h, h0.h, Option.isSome_some, if_true]
theorem go_conv_fi {b : Nat} {a : Int} [h0 : TFloat P t] [h1 : TInt P t' .i64] (h : evalD env x = .float .f64 b) (ha : (FloatKind.f64.decode b).toInt .zero = some a) (hr : -9223372036854775808 ≤ a ∧ a ≤ 9223372036854775807) (hd : okDst n (some s) = true) (hk : K .normal ⟨(s, .int .i64 a) :: env, hp, nx, n⟩) : evOp P (.convert t t' x) id (some s) ⟨env, hp, nx, n⟩ K := by
  rw [evOp_convert]
  refine ⟨.int .i64 a, ?_, hd, hk⟩
  rw [h]
  simp only [convD, h1.h, h0.h, Option.isSome_some, ha]
  rw [if_pos (show IntKind.min .i64 ≤ a ∧ a ≤ IntKind.max .i64 from hr)]
/-- A call whose result is a float. -/
theorem go_fn_float {args : List Operand} {ts : Array TypeId} {g : FuncId} {args' : List D} {k : FloatKind} {q : Nat} (hp' : purL (lkH hp) 64 (args.map (evalD env)) = some args') (hc : Contract P g args' (.ret (.float k q))) (hd : okDst n (some s) = true)
    (h : K .normal ⟨(s, .float k q) :: env, hp, nx, n⟩) : evOp P (.call { callee := .value (.func g), args := args.toArray, argTypes := ts }) id (some s) ⟨env, hp, nx, n⟩ K :=
  go_call_fn hp' hc (Bool.or_true _) (Nat.le_of_ble_eq_true rfl) hd h
end
end Go.Pv

/- A struct whose last cell is a nil list, and a value, as results. -/
namespace Go.Pv
section
variable {P : Program} {K : X → St → Prop} {env : Env} {hp : Hp} {nx n id : Nat}
theorem fin_agn2 {r1 r2 : ResultVar} {cs : List D} {k : Nat} {d2 : D} (h : resD P ⟨env, hp, nx, n⟩ r1 = some (.agg (cs ++ [.nilsl]))) (hc : cs.all cellP = true) (h2 : resD P ⟨env, hp, nx, n⟩ r2 = some d2) (hs : cellP d2 = true) :
    Fin P [r1, r2] ⟨env, hp, nx, n⟩ (.tup [.agg (cs ++ [.fr k []]), d2]) := by
  have hd2 : cellsD d2 = [d2] := by cases d2 <;> first | (cases hs; done) | rfl
  refine .inr ⟨cs.map (fun _ => Src.pure) ++ [.nil, .pure], [.agg (cs ++ [.nilsl]), d2], [.agg (cs ++ [.fr k []]), d2], by simp [h, h2], by rw [frsOf_nils]; simp [frsOf], ?_, rfl, fun h => by simp at h, by simp [isCell, cellsD], ?_⟩
  · simp only [List.flatMap_cons, List.flatMap_nil, List.append_nil, cells_agg, hd2, List.append_assoc, List.cons_append, List.nil_append]
    exact finL_nils hc ⟨pur_cellP (m := 63) hs, trivial⟩
  · simp only [List.flatMap_cons, List.flatMap_nil, List.append_nil, cells_agg, hd2, List.all_append, List.all_cons, List.all_nil, Bool.and_true, Bool.and_eq_true]
    exact ⟨⟨List.all_eq_true.2 fun c h => isCell_cellP (List.all_eq_true.1 hc c h), rfl⟩, isCell_cellP hs⟩
end
end Go.Pv

/- Loop heads in functions that write into a block of their caller's: block 0 stays. -/
namespace Go.Pv

section
variable {P : Program} {w w' w0 : World} {pu : Nat → Prop} {ow ow' : Nat → Ow} {base : Nat} {g : Sg}
theorem entailsK_morph {ns : Sg} {k nx : Nat} {ks : List Nat} {st : St} (h00 : (0, 0) ∈ g) (ho : okSg g ns nx = true) (hn : ∀ x ∈ ns, lkE st.env x.1 = .nilsl) : EntailsK st (morph g ns k ks nx st) := by
  unfold okSg at ho
  simp only [Bool.and_eq_true, decide_eq_true_eq, List.all_eq_true] at ho
  obtain ⟨⟨hd1, hd2⟩, hlt⟩ := ho
  have hd2' : (g.map (·.2)).Nodup := by
    rw [List.map_append] at hd2
    exact (List.nodup_append.1 hd2).1
  have hdis : ∀ a s b, (a, b) ∈ g → (s, b) ∈ ns → False := fun a s b h1 h2 => by
    rw [List.map_append] at hd2
    exact (List.nodup_append.1 hd2).2.2 b (List.mem_map.2 ⟨_, h1, rfl⟩) b (List.mem_map.2 ⟨_, h2, rfl⟩) rfl
  intro w0 S a w hF ⟨pu, ow, m1, m2, m3, m4, m5, m6, m7⟩
  let ow' : Nat → Ow := fun b' => match lkI g b' with
    | some b => ow b
    | none => if b' ∈ ns.map (·.2) then .empty else .pending
  have h1 : ∀ b b', (b, b') ∈ g → ow' b' = ow b := fun b b' h => by simp only [ow', lkI_of_mem hd2' h]
  have hg : ∀ b b', lkS g b = some b' → ow' b' = ow b := fun b b' h => h1 b b' (lkS_mem h)
  have h2 : ∀ s b', (s, b') ∈ ns → ow' b' = .empty := fun s b' h => by
    have : lkI g b' = none := by
      cases hl : lkI g b' with
      | none => rfl
      | some b => exact (hdis b s b' (lkI_mem hl) h).elim
    simp only [ow', this]
    rw [if_pos (List.mem_map.2 ⟨_, h, rfl⟩)]
  have h3 : ∀ b', (∀ b, (b, b') ∉ g) → (∀ s, (s, b') ∉ ns) → ow' b' = .pending := fun b' hg hs => by
    have : lkI g b' = none := by
      cases hl : lkI g b' with
      | none => rfl
      | some b => exact (hg b (lkI_mem hl)).elim
    simp only [ow', this]
    rw [if_neg]
    rintro hm
    obtain ⟨⟨s, b⟩, hm', rfl⟩ := List.mem_map.1 hm
    exact hs s hm'
  have hcase : ∀ b' y, (ow' b').on y → ∃ b, (b, b') ∈ g ∧ (ow b).on y := fun b' y h => by
    by_cases hgx : ∃ b, (b, b') ∈ g
    · obtain ⟨b, hb⟩ := hgx
      exact ⟨b, hb, by rw [← h1 b b' hb]; exact h⟩
    · by_cases hsx : ∃ s, (s, b') ∈ ns
      · obtain ⟨s, hs⟩ := hsx
        rw [h2 s b' hs] at h; exact h.elim
      · rw [h3 b' (fun b hb => hgx ⟨b, hb⟩) (fun s hs => hsx ⟨s, hs⟩)] at h; exact h.elim
  refine ⟨pu, ow', ⟨fun b' blk' hb => ?_, fun b' hb => ?_, fun b1 b2 y e1 e2 => ?_, fun b' y e => ?_, m1.zone⟩, fun s => ?_, m3, m4, fun b' hb => ?_, m6, m7.1, m7.2.1, fun b => by
    by_cases hb : b = 0
    · subst hb; rw [h1 0 0 h00]; exact m7.2.2 0
    · exact .inl (hF b hb)⟩
  · simp only [morph, lkH_append, Option.or_eq_some_iff] at hb
    rcases hb with hb | ⟨_, hb⟩
    · obtain ⟨rfl, s, hs⟩ := lkH_nilH hb
      rw [h2 s b' hs]
      exact ⟨fun _ => rfl, rfl⟩
    · obtain ⟨b, blk, hm, hb2, rfl⟩ := morphH_get hb
      rw [h1 b b' hm]
      exact (m1.blk b blk hb2).ren hg
  · simp only [morph, lkH_append, Option.or_eq_none_iff] at hb
    by_cases hgx : ∃ b, (b, b') ∈ g
    · obtain ⟨b, hm⟩ := hgx
      rw [h1 b b' hm]
      refine m1.none b ?_
      cases hl : lkH st.hp b with
      | none => rfl
      | some blk => exact (morphH_none (by rw [hl]; simp) hm hb.2).elim
    · by_cases hsx : ∃ s, (s, b') ∈ ns
      · obtain ⟨s, hs⟩ := hsx
        exact (lkH_nilH_none hs hb.1).elim
      · exact .inr (h3 b' (fun b hb => hgx ⟨b, hb⟩) (fun s hs => hsx ⟨s, hs⟩))
  · obtain ⟨c1, hc1, f1⟩ := hcase b1 _ e1
    obtain ⟨c2, hc2, f2⟩ := hcase b2 _ e2
    have := m1.injO c1 c2 _ f1 f2
    subst this
    exact fst_inj hd1 hc1 hc2
  · obtain ⟨c, hc, f⟩ := hcase b' _ e
    exact m1.ownO c _ f
  · simp only [morph]
    rw [lkE_append]
    split
    · rename_i hs
      obtain ⟨b, hb, he⟩ := lkE_nilE hs
      rw [he]
      have := m2 s
      rw [hn (s, b) hb] at this
      have hv : a.tmps.getD s undef = .slice none 0 0 := by
        generalize a.tmps.getD s undef = v at this
        cases this with
        | pure _ _ h => cases h
        | nilsl => rfl
      rw [hv]
      exact .ose none b 0 (h2 s b hb)
    · unfold morphE
      rw [lkE_restr (fun s => Go.Pv.ren g (lkE st.env s))]
      split
      · exact (m2 s).ren hg
      · exact .pure _ _ (.undef _)
  · simp only [morph] at hb
    refine h3 b' (fun b hm => ?_) fun s hm => ?_
    · have := hlt (b, b') (by simp [hm])
      simp at this
      omega
    · have := hlt (s, b') (by simp [hm])
      simp at this
      omega


theorem entailsK_eq {ns : Sg} {k nx : Nat} {ks : List Nat} {st st' : St} (g : Sg) (h00 : (0, 0) ∈ g) (ho : okSg g ns nx = true) (hn : ∀ x ∈ ns, lkE st.env x.1 = .nilsl) (he : morph g ns k ks nx st = st') : EntailsK st st' := he ▸ entailsK_morph h00 ho hn
end
end Go.Pv

/- An element appended to the first ones of an own list. -/
namespace Go.Pv
section
variable {P : Program} {E : St → St → Prop} {K : X → St → Prop} {env : Env} {hp : Hp} {nx n id : Nat} {s : Tmp} {x y f : Operand} {t t' : TypeId}
/-- One element appended to the first ones of an own list; what stood behind them is forgotten. -/
theorem go_app_mapt {α : Type} {f : α → List D} {e k b b2 len : Nat} {l : List α} {a : α} {fl2 : Bool} [hs : TSlice P t e k] (hf : ScalF f k) (h1 : evalD env x = .os b 0 len) (h2 : evalD env y = .os b2 0 1) (hb : lkH hp b = some ⟨k, true, l.map f⟩) (hlen : len ≤ l.length) (hb2 : lkH hp b2 = some ⟨k, fl2, [f a]⟩)
    (hc1 : ((f a).all cell1) = true) (hz : zeroOK P e = true) (hby : Nat.ble (P.bytesOf e) 4096 = true) (hn : len ≤ 1000000000) (hd : okDst n (some s) = true)
    (hk : K .normal ⟨(s, .os b 0 (len + 1)) :: purgeE b env, (b, ⟨k, true, (l.take len ++ [a]).map f⟩) :: purgeH b hp, nx, n⟩) : evOp P (.call { callee := .builtin .append, args := #[x, y], argTypes := #[t, t] }) id (some s) ⟨env, hp, nx, n⟩ K := by
  have hby' : P.bytesOf e ≤ 4096 := Nat.le_of_ble_eq_true hby
  have hap : appendD P (lkH hp) t (evalD env x) (evalD env y) = some (some b, ⟨k, true, (l.take len ++ [a]).map f⟩) := by
    have hx : contentD (lkH hp) (.os b2 0 1) = some [f a] := by simp [contentD, hb2]
    have ho : contentD (lkH hp) (.os b 0 len) = some ((l.take len).map f) := by
      simp only [contentD, hb, Option.bind_some]
      rw [if_pos (by simpa using hlen)]
      rw [List.drop_zero, List.map_take]
    unfold appendD
    rw [hs.u, h1, h2]
    simp only [hx, ho, Option.bind_some]
    have hmul : (len + 1) * P.bytesOf e ≤ 140737488355328 := by
      have := Nat.mul_le_mul (show len + 1 ≤ 1000000001 by omega) hby'
      omega
    have hdl : (l.take len).length = len := by simp; omega
    rw [if_pos]
    · rw [hb]
      simp only [Option.bind_some]
      rw [if_pos]
      · have hft : flatRows [f a] = true := by
          have := flat_map hf [a]
          simpa using this
        simp [hs.c, hft]
      · refine ⟨.inl hs.c.symm, fun r hr c hc => ?_⟩
        have : ∃ a', r = f a' := by
          simp only [List.mem_append, List.mem_map, List.mem_singleton] at hr
          rcases hr with ⟨a', _, rfl⟩ | rfl
          · exact ⟨a', rfl⟩
          · exact ⟨a, rfl⟩
        obtain ⟨a', rfl⟩ := this
        exact scal1_ment (List.all_eq_true.1 (hf a').2 c hc)
    · refine ⟨by rw [hs.c]; exact hs.p, fun r hr => ?_, fun r hr c hc => ?_, by simp only [List.length_map, hdl, List.length_cons, List.length_nil]; exact hmul, by simp only [List.length_map, hdl, List.length_cons, List.length_nil]; omega, hz, by simp [kOK, hb2, hs.c]⟩
      · simp only [List.mem_singleton] at hr
        rw [hr, (hf a).1, hs.c]
      · simp only [List.mem_singleton] at hr
        subst hr
        exact List.all_eq_true.1 hc1 c hc
  refine go_append_on hap hd ?_
  have e : (⟨k, true, (l.take len ++ [a]).map f⟩ : Blk).rows.length = len + 1 := by simp; omega
  rw [e]
  exact hk

theorem fin_nil1 {r1 : ResultVar} {k : Nat} (h1 : resD P ⟨env, hp, nx, n⟩ r1 = some .nilsl) : Fin P [r1] ⟨env, hp, nx, n⟩ (.fr k []) :=
  .inl ⟨[.nil], [.nilsl], [.fr k []], by simp [h1], by simp [frsOf], ⟨⟨rfl, k, rfl⟩, trivial⟩, rfl, fun _ => rfl⟩
/-- Of a block's rows the last ones may be forgotten. -/
theorem entails_take {st : St} {b : Nat} {blk : Blk} (m : Nat) (hb : lkH st.hp b = some blk) (hk : 0 < blk.k := by decide) : Entails st ⟨st.env, updH b ⟨blk.k, blk.flat, blk.rows.take m⟩ st.hp, st.nx, st.n⟩ := by
  intro w0 S a w hF ⟨pu, ow, m1, m2, m3, m4, m5, m6, m7⟩
  refine ⟨pu, ow, ⟨fun c blk2 hc => ?_, fun c hc => ?_, m1.injO, m1.ownO, m1.zone⟩, m2, m3, m4, m5, m6, m7⟩
  · rw [lkH_updH] at hc
    split at hc
    · rename_i h
      obtain ⟨rfl, _⟩ := h
      injection hc with hc; subst hc
      exact blk_take (m1.blk c blk hb) (fun g e => by have := m1.blk c blk hb; rw [e] at this; have h2 : blk.k = 0 := this.2.1.2; omega) m
    · exact m1.blk c blk2 hc
  · rw [lkH_updH] at hc
    split at hc
    · cases hc
    · exact m1.none c hc
end
end Go.Pv

/- A new list of three integers. -/
namespace Go.Pv
section
variable {P : Program} {E : St → St → Prop} {K : X → St → Prop} {env : Env} {hp : Hp} {nx n id : Nat} {s : Tmp} {x y u v : Operand} {t : TypeId}
theorem go_bs3_int {e : Nat} {z : D} {k k2 k3 : IntKind} {a b c : Int} [hs : TSlice P t e 1] [hz : TZero P e z] (h1 : evalD env x = .int k a) (h2 : evalD env y = .int k2 b) (h3 : evalD env u = .int k3 c) (hzl : (cellsD z).length = 1) (hd : okDst n (some s) = true)
    (hk : K .normal ⟨(s, .os id 0 3) :: env, (id, ⟨1, true, [[.int k a], [.int k2 b], [.int k3 c]]⟩) :: hp, nx, n⟩) : evOp P (.buildSlice t 3 #[(0, x), (1, y), (2, u)]) id (some s) ⟨env, hp, nx, n⟩ K := by
  have ho : op1 P (evalD env) (.buildSlice t 3 #[(0, x), (1, y), (2, u)]) = some (false, ⟨1, true, [[.int k a], [.int k2 b], [.int k3 c]]⟩) := by
    simp only [op1, hs.u, hz.h, Option.bind_some]
    rw [if_neg (by decide), if_pos ⟨hz.k, by rw [hzl, hs.c], by rw [hs.c]; decide, by rw [hs.c]; decide⟩]
    simp only [List.map_cons, List.map_nil, h1, h2, h3, hs.c]
    rfl
  unfold evOp
  simp only [op0, ho]
  exact ⟨hd, hk⟩
end
theorem purL_os2 {h : Nat → Option Blk} {b len k : Nat} {rows : List (List D)} {d d' : D} {ds rs : List D} (hd : pur h 63 d = some d') (hb : h b = some ⟨k, true, rows⟩) (hl : rows.length = len) (hr : purL h 62 ds = some rs) : purL h 64 (d :: .os b 0 len :: ds) = some (d' :: .sl rows :: rs) := by
  have e : purL h 63 (.os b 0 len :: ds) = some (.sl rows :: rs) := by
    show (pur h 62 _).bind _ = _
    rw [pur_own (m := 61) hb hl]
    simp only [Option.bind_some, hr, Option.map_some]
  show (pur h 63 _).bind _ = _
  rw [hd]
  simp only [Option.bind_some, e, Option.map_some]
end Go.Pv

/- A whole list appended to a list of the call's own. -/
namespace Go.Pv
section
variable {P : Program} {K : X → St → Prop} {env : Env} {hp : Hp} {nx n id : Nat} {s : Tmp} {x y : Operand} {t : TypeId}
theorem go_app_map_sl {α : Type} {f : α → List D} {e k b len : Nat} {l l2 : List α} [hs : TSlice P t e k] (hf : ScalF f k) (h1 : evalD env x = .os b 0 len) (h2 : evalD env y = .sl (l2.map f)) (hb : lkH hp b = some ⟨k, true, l.map f⟩) (hlen : l.length = len)
    (hc1 : ∀ a, ((f a).all cell1) = true) (hz : zeroOK P e = true) (hby : Nat.ble (P.bytesOf e) 4096 = true) (hn : len + l2.length ≤ 1000000000) (hd : okDst n (some s) = true)
    (hk : K .normal ⟨(s, .os b 0 (len + l2.length)) :: purgeE b env, (b, ⟨k, true, (l ++ l2).map f⟩) :: purgeH b hp, nx, n⟩) : evOp P (.call { callee := .builtin .append, args := #[x, y], argTypes := #[t, t] }) id (some s) ⟨env, hp, nx, n⟩ K := by
  have hby' : P.bytesOf e ≤ 4096 := Nat.le_of_ble_eq_true hby
  have hap : appendD P (lkH hp) t (evalD env x) (evalD env y) = some (some b, ⟨k, true, (l ++ l2).map f⟩) := by
    have hx : contentD (lkH hp) (.sl (l2.map f)) = some (l2.map f) := rfl
    have ho : contentD (lkH hp) (.os b 0 len) = some (l.map f) := by
      simp only [contentD, hb, Option.bind_some]
      rw [if_pos (by simp [hlen])]
      rw [List.drop_zero, List.take_of_length_le (by simp [hlen])]
    unfold appendD
    rw [hs.u, h1, h2]
    simp only [hx, ho, Option.bind_some]
    have hmul : (len + l2.length) * P.bytesOf e ≤ 140737488355328 := by
      have := Nat.mul_le_mul hn hby'
      omega
    rw [if_pos]
    · rw [hb]
      simp only [Option.bind_some]
      rw [if_pos]
      · simp [hs.c, flat_map hf]
      · refine ⟨.inl hs.c.symm, fun r hr c hc => ?_⟩
        have : ∃ a', r = f a' := by
          simp only [List.mem_append, List.mem_map] at hr
          rcases hr with ⟨a', _, rfl⟩ | ⟨a', _, rfl⟩ <;> exact ⟨a', rfl⟩
        obtain ⟨a', rfl⟩ := this
        exact scal1_ment (List.all_eq_true.1 (hf a').2 c hc)
    · refine ⟨by rw [hs.c]; exact hs.p, fun r hr => ?_, fun r hr c hc => ?_, by simpa [hlen] using hmul, by simp [hlen]; omega, hz, rfl⟩
      · obtain ⟨a, _, rfl⟩ := List.mem_map.1 hr
        rw [(hf a).1, hs.c]
      · obtain ⟨a, _, rfl⟩ := List.mem_map.1 hr
        exact List.all_eq_true.1 (hc1 a) c hc
  refine go_append_on hap hd ?_
  have e : (⟨k, true, (l ++ l2).map f⟩ : Blk).rows.length = len + l2.length := by simp [hlen]
  rw [e]
  exact hk
end
end Go.Pv

/- Copies into lists of the call's own; maps as sets of keys. -/
namespace Go.Pv
section
variable {P : Program} {K : X → St → Prop} {env : Env} {hp : Hp} {nx n id : Nat}
/-- Rows of k cells that lead to no block of the call's own. -/
def LiteF {α : Type} (f : α → List D) (k : Nat) : Prop := ∀ a, (f a).length = k ∧ (f a).all lite = true ∧ (f a).all cell1 = true
theorem flat_lite {α : Type} {f : α → List D} {k : Nat} (h : LiteF f k) (l : List α) : flatRows (l.map f) = true := by
  simp only [flatRows, List.all_map, List.all_eq_true, Function.comp]
  exact fun a _ => List.all_eq_true.1 (h a).2.1
/-- A new list of zero values. -/
theorem go_makeN {t e : TypeId} {k len : Nat} {l c : Operand} {s : Tmp} {z : D} [hs : TSlice P t e k] (hl : evalD env l = .int .i64 (len : Int)) (hl' : evalD env c = .int .i64 (len : Int)) (hz : zeroD P e = some z) (hkn : known z = true) (hzl : (cellsD z).length = k)
    (hb : Nat.ble (P.bytesOf e) 4096 = true) (hlen : len ≤ 1000000000) (hd : okDst n (some s) = true) (hk : K .normal ⟨(s, .os id 0 len) :: env, (id, ⟨k, flatRows [cellsD z], List.replicate len (cellsD z)⟩) :: hp, nx, n⟩) :
    evOp P (.makeSlice t l c) id (some s) ⟨env, hp, nx, n⟩ K := by
  have hb' : P.bytesOf e ≤ 4096 := Nat.le_of_ble_eq_true hb
  have hmul : (P.bytesOf e : Int) * (len : Int) ≤ 281474976710656 := by
    have := Int.mul_le_mul (show (P.bytesOf e : Int) ≤ 4096 by omega) (show (len : Int) ≤ 1000000000 by omega) (by omega) (by omega)
    omega
  refine go_makeSlice (m := len) (m' := len) hs.u hl hl' hz ⟨hkn, by rw [hzl, hs.c], by rw [hs.c]; exact hs.p, by omega, rfl, by omega, hmul⟩ hd ?_
  rw [Int.toNat_natCast, hs.c]
  exact hk
theorem goM_copy {α : Type} {f : α → List D} {l : List α} {all rest : List Oper} {dst : Option Tmp} {ty : TypeId} {pos : String} {af : Array Edge} {t e : TypeId} {x y : Operand} {b k k' len : Nat} {fl : Bool} {rows : List (List D)} [hs : TSlice P t e k] (hf : LiteF f k)
    (ha : evalD env x = .os b 0 len) (hb : lkH hp b = some ⟨k', fl, rows⟩) (hk : k' = k) (hl : rows.length = len) (hy : evalD env y = .sl (l.map f)) (hn : l.length = len) (h0 : 0 < len) (hd : okDst n dst = true)
    (h : evOpsM P all rest (id + 32) ⟨putE dst (.int .i64 len) env, updH b ⟨k, true, l.map f⟩ hp, nx, n⟩ K) :
    evOpsM P all ({ dst := dst, op := .call { callee := .builtin .copy, args := #[x, y], argTypes := #[t, t] }, type := ty, pos := pos, after := af, guard := none } :: rest) id ⟨env, hp, nx, n⟩ K := by
  subst hk
  refine .inr ⟨rfl, .inr (.inr (.inr (.inr ⟨x, y, t, e, b, 0, len, len, ⟨k', fl, rows⟩, l.map f, true, l.map f, rfl, rfl, hs.u, by rw [hs.c]; exact hs.p, ha, hb, hs.c.symm, by simp [hl], by simp [hn], h0, by rw [hy]; rfl, fun r hr => ?_, fun r hr c hc => ?_, ?_, fun _ => flat_lite hf l, by rw [hy]; rfl, hd, h⟩)))⟩
  · obtain ⟨a, _, rfl⟩ := List.mem_map.1 hr
    rw [(hf a).1, hs.c]
  · obtain ⟨a, _, rfl⟩ := List.mem_map.1 hr
    exact List.all_eq_true.1 (hf a).2.2 c hc
  · simp only [List.take_zero, List.nil_append, Nat.zero_add]
    rw [List.take_of_length_le (by simp [hn]), List.drop_of_length_le (by omega), List.append_nil]
end
theorem beq_ba (a b : ByteArray) : (a == b) = true ↔ a = b := by
  cases a with | mk x => cases b with | mk y =>
  constructor
  · intro h
    have h' : (x == y) = true := h
    rw [eq_of_beq h']
  · intro h
    cases h
    show (x == x) = true
    simp
theorem findR_map {α : Type} {td : TypeDesc} {k : D} {key : α → D} {p : α → Bool} (h : ∀ x, keyEq td k (key x) = some (p x)) : ∀ l : List α, findR td k (l.map fun x => [key x, .bool true]) = some (if l.any p then some (.bool true) else none)
  | [] => rfl
  | x :: l => by
    have e := h x
    have ih := findR_map h l
    simp only [List.map_cons, findR, List.any_cons]
    rw [e]
    by_cases hp : p x = true
    · simp [hp, valOf]
    · have hp' : p x = false := by simpa using hp
      simp [hp', ih]
theorem findR_str {α : Type} (nm : α → ByteArray) (s : ByteArray) (l : List α) : findR .string (.str s) (l.map fun x => [.str (nm x), .bool true]) = some (if l.any (fun x => s == nm x) then some (.bool true) else none) :=
  findR_map (fun _ => rfl) l
theorem findR_int {α : Type} (nm : α → Int) (s : Int) (l : List α) : findR (.int .i64) (.int .i64 s) (l.map fun x => [.int .i64 (nm x), .bool true]) = some (if l.any (fun x => s == nm x) then some (.bool true) else none) :=
  findR_map (fun _ => rfl) l
theorem findR_strN {α : Type} {nm : α → ByteArray} {s : ByteArray} {l : List α} (h : ∀ x ∈ l, nm x ≠ s) : findR .string (.str s) (l.map fun x => [.str (nm x), .bool true]) = some none := by
  rw [findR_str, if_neg]
  intro hh
  obtain ⟨x, hx, he⟩ := List.any_eq_true.1 hh
  exact h x hx ((beq_ba _ _).1 he).symm
theorem findR_intN {α : Type} {nm : α → Int} {s : Int} {l : List α} (h : ∀ x ∈ l, nm x ≠ s) : findR (.int .i64) (.int .i64 s) (l.map fun x => [.int .i64 (nm x), .bool true]) = some none := by
  rw [findR_int, if_neg]
  intro hh
  obtain ⟨x, hx, he⟩ := List.any_eq_true.1 hh
  exact h x hx (by simpa using he : s = nm x).symm
section
variable {P : Program} {id nx n : Nat} {env : List (Tmp × D)} {hp : List (Nat × Blk)} {K : X → St → Prop} {x : Operand} {s : Tmp}
theorem go_mv_om {b : Nat} (h : evalD env x = .om b) (hd : okDst n (some s) = true) (hk : K .normal ⟨(s, .om b) :: env, hp, nx, n⟩) : evOp P (.move x) id (some s) ⟨env, hp, nx, n⟩ K := go_move h hd hk

/-- A region of open order, with a call in line that writes into an own list. -/
def kLineC (P : Program) (l : List Oper) (m : Nat) (zs : List (List Nat)) (K : X → St → Prop) : X → St → Prop := onlyN fun st' => evLineM P l m (l.drop m) zs st'.nx st' K
theorem go_klinec {l : List Oper} {m : Nat} {zs : List (List Nat)} (h : evLineM P l m (l.drop m) zs nx ⟨env, hp, nx, n⟩ K) : kLineC P l m zs K .normal ⟨env, hp, nx, n⟩ := h
theorem go_drawC {E : St → St → Prop} (i m : Nat) (zs : List (List Nat)) {l : List Oper} (hc : chkDrawL l m zs = true) (hdom : (hp.all fun x => decide (x.1 < nx)) = true) (h : evOps P l (l.take m) nx ⟨env, hp, nx, n⟩ (kLineC P l m zs K)) :
    evG E P (.region i l.toArray true) K ⟨env, hp, nx, n⟩ := .inr (.inr ⟨m, zs, hc, hdom, h⟩)
theorem go_linec_drop {l l' : List Oper} {m k : Nat} {o : Oper} {zs : List (List Nat)} {st : St} (h : evLineM P l m (List.drop k l') zs id st K) : evLineM P l m (List.drop (k + 1) (o :: l')) zs id st K := h
theorem go_linec_drop0 {l l' : List Oper} {m : Nat} {zs : List (List Nat)} {st : St} (h : evLineM P l m l' zs id st K) : evLineM P l m (List.drop 0 l') zs id st K := h
def kLc (P : Program) (l : List Oper) (m : Nat) (rest : List Oper) (zs : List (List Nat)) (z : List Nat) (id : Nat) (K : X → St → Prop) : X → St → Prop := onlyN fun st' => againAll P l st' z ∧ evLineM P l m rest zs (id + 32 + 32 * m) st' K
theorem go_linec {l rest : List Oper} {m : Nat} {zs : List (List Nat)} {z : List Nat} {dst : Option Tmp} {op : Op} {ty : TypeId} {pos : String} {af : Array Edge} {g : Option (Nat × Bool)} (h : evOp P op id dst ⟨env, hp, nx, n⟩ (kLc P l m rest zs z id K)) :
    evLineM P l m ({ dst := dst, op := op, type := ty, pos := pos, after := af, guard := g } :: rest) (z :: zs) id ⟨env, hp, nx, n⟩ K := .inl h
theorem go_klc {l rest : List Oper} {m : Nat} {zs : List (List Nat)} {z : List Nat} (h1 : againAll P l ⟨env, hp, nx, n⟩ z) (h2 : evLineM P l m rest zs (id + 32 + 32 * m) ⟨env, hp, nx, n⟩ K) : kLc P l m rest zs z id K .normal ⟨env, hp, nx, n⟩ := ⟨h1, h2⟩
theorem go_linec_nil {l : List Oper} {m : Nat} (h : K .normal ⟨env, hp, id, n⟩) : evLineM P l m [] [] id ⟨env, hp, nx, n⟩ K := h
theorem go_linec_call {l rest : List Oper} {m : Nat} {zs : List (List Nat)} {z : List Nat} {dst : Option Tmp} {ty : TypeId} {pos : String} {af : Array Edge} {gd : Option (Nat × Bool)} {args : List Operand} {ts : Array TypeId} {g : FuncId} {ds args' : List D} {b : Nat} {blk blk' : Blk} {r r' : D}
    (ha : args.map (evalD env) = ds) (hb : lkH hp b = some blk) (hs : scalR blk.rows = true) (hin : inL b ds = some args') (hos : hasOs b ds = true) (hc : ContractM P g args' blk r blk') (hr : outR b r = r') (hd : okDst n dst = true)
    (h : kLc P l m rest zs z id K .normal ⟨putE dst r' env, updH b blk' hp, nx, n⟩) :
    evLineM P l m ({ dst := dst, op := .call { callee := .value (.func g), args := args.toArray, argTypes := ts }, type := ty, pos := pos, after := af, guard := gd } :: rest) (z :: zs) id ⟨env, hp, nx, n⟩ K := by
  subst ha hr
  refine .inr (.inl ?_)
  exact ⟨b, blk, args', r, blk', hb, hs, by simpa using hin, by simpa using hos, hc, hd, h⟩
end
end Go.Pv

/- Lists whose cells are read-only lists: as results of calls with pure arguments, and as read-only results. -/
namespace Go.Pv
section
variable {P : Program} {K : X → St → Prop} {env : Env} {hp : Hp} {nx n id : Nat} {s : Tmp}
theorem go_fn_frl {α : Type} {f : α → List D} {k : Nat} {l : List α} {args : List Operand} {ts : Array TypeId} {g : FuncId} {args' : List D} (hpl : pureL (args.map (evalD env)) = true) (hp' : purL (lkH hp) 64 (args.map (evalD env)) = some args') (hc : Contract P g args' (.ret (.fr k (l.map f)))) (hf : LiteF f k) (hd : okDst n (some s) = true)
    (h : K .normal ⟨(s, .os id 0 l.length) :: env, (id, ⟨k, true, l.map f⟩) :: hp, nx, n⟩) : evOp P (.call { callee := .value (.func g), args := args.toArray, argTypes := ts }) id (some s) ⟨env, hp, nx, n⟩ K := by
  refine go_call_fn hp' hc (by rw [hpl, Bool.true_or]) (by simp [widR, widE]) hd ?_
  have e : adopt id (.fr k (l.map f)) = (.os id 0 l.length, [(id, ⟨k, true, l.map f⟩)]) := by
    simp [adopt, adE, adC, flat_lite hf]
  rw [e]
  exact h
theorem go_fn_sl {rows : List (List D)} {args : List Operand} {ts : Array TypeId} {g : FuncId} {args' : List D} (hpl : pureL (args.map (evalD env)) = true) (hp' : purL (lkH hp) 64 (args.map (evalD env)) = some args') (hc : Contract P g args' (.ret (.sl rows))) (hd : okDst n (some s) = true)
    (h : K .normal ⟨(s, .sl rows) :: env, hp, nx, n⟩) : evOp P (.call { callee := .value (.func g), args := args.toArray, argTypes := ts }) id (some s) ⟨env, hp, nx, n⟩ K :=
  go_call_fn hp' hc (by rw [hpl, Bool.true_or]) (Nat.le_of_ble_eq_true rfl) hd h
theorem pur_whole {α : Type} {f : α → List D} {hq : Nat → Option Blk} {m b k len : Nat} {l : List α} (hb : hq b = some ⟨k, true, l.map f⟩) (hlen : len = l.length) : pur hq (m + 1) (.os b 0 len) = some (.sl (l.map f)) := by
  subst hlen
  have : (l.map f).take l.length = l.map f := List.take_of_length_le (by simp)
  simp [pur, hb, this]
theorem end_sln {α : Type} {f : α → List D} {rv : ResultVar} {b k len : Nat} {l l' : List α} (h : resD P ⟨env, hp, nx, n⟩ rv = some (.os b 0 len)) (hb : lkH hp b = some ⟨k, true, l.map f⟩) (hlen : len = l.length) (e : l = l') : finK P [rv] (.ret (.sl (l'.map f))) .ret ⟨env, hp, nx, n⟩ := by
  subst e
  refine ⟨_, rfl, .inl ⟨[.pure], [.os b 0 len], [.sl (l.map f)], by simp [h], by simp [frsOf], ⟨?_, trivial⟩, rfl, fun _ => rfl⟩⟩
  exact pur_whole (m := 63) (k := k) (hq := without [] (lkH hp)) (by simp [without, hb]) hlen
theorem end_nilsl {rv : ResultVar} (h : resD P ⟨env, hp, nx, n⟩ rv = some .nilsl) : finK P [rv] (.ret (.sl [])) .ret ⟨env, hp, nx, n⟩ :=
  ⟨_, rfl, .inl ⟨[.pure], [.nilsl], [.sl []], by simp [h], by simp [frsOf], ⟨rfl, trivial⟩, rfl, fun _ => rfl⟩⟩
variable {t : TypeId} {x y z u : Operand}
/-- A struct of four values of one cell. -/
theorem go_bd4 {zs : List D} {d1 d2 d3 d4 : D} [hl : TLay P t zs [(0, 1), (1, 1), (2, 1), (3, 1)]] (h1 : evalD env x = d1) (h2 : evalD env y = d2) (h3 : evalD env z = d3) (h4 : evalD env u = d4) (hz : zs.length = 4) (c1 : cellsD d1 = [d1]) (c2 : cellsD d2 = [d2]) (c3 : cellsD d3 = [d3]) (c4 : cellsD d4 = [d4])
    (p : (known d1 && known d2 && known d3 && known d4) = true) (hd : okDst n (some s) = true) (hk : K .normal ⟨(s, .agg [d1, d2, d3, d4]) :: env, hp, nx, n⟩) :
    evOp P (.build t #[(0, x), (1, y), (2, z), (3, u)]) id (some s) ⟨env, hp, nx, n⟩ K := by
  obtain ⟨z0, z1, z2, z3, rfl⟩ : ∃ z0 z1 z2 z3, zs = [z0, z1, z2, z3] := by
    match zs, hz with
    | [z0, z1, z2, z3], _ => exact ⟨z0, z1, z2, z3, rfl⟩
  simp only [Bool.and_eq_true] at p
  obtain ⟨⟨⟨p1, p2⟩, p3⟩, p4⟩ := p
  refine go_build (parts := [(0, x), (1, y), (2, z), (3, u)]) ?_ hd hk
  simp only [List.map_cons, List.map_nil, h1, h2, h3, h4]
  simp only [fillD, List.getElem?_cons_zero, List.getElem?_cons_succ, c1, c2, c3, c4, p1, p2, p3, p4]
  rfl
theorem go_bd4_os {zs : List D} {b1 o1 l1 b2 o2 l2 b3 o3 l3 b4 o4 l4 : Nat} [hl : TLay P t zs [(0, 1), (1, 1), (2, 1), (3, 1)]] (h1 : evalD env x = .os b1 o1 l1) (h2 : evalD env y = .os b2 o2 l2) (h3 : evalD env z = .os b3 o3 l3) (h4 : evalD env u = .os b4 o4 l4) (hz : zs.length = 4)
    (hd : okDst n (some s) = true) (hk : K .normal ⟨(s, .agg [.os b1 o1 l1, .os b2 o2 l2, .os b3 o3 l3, .os b4 o4 l4]) :: env, hp, nx, n⟩) :
    evOp P (.build t #[(0, x), (1, y), (2, z), (3, u)]) id (some s) ⟨env, hp, nx, n⟩ K := go_bd4 h1 h2 h3 h4 hz rfl rfl rfl rfl rfl hd hk
theorem go_bd3_isi {zs : List D} {a : ByteArray} {k k' : IntKind} {b c : Int} [hl : TLay P t zs [(0, 1), (1, 1), (2, 1)]] (h1 : evalD env x = .int k b) (h2 : evalD env y = .str a) (h3 : evalD env z = .int k' c) (hz : zs.length = 3) (hd : okDst n (some s) = true) (hk : K .normal ⟨(s, .agg [.int k b, .str a, .int k' c]) :: env, hp, nx, n⟩) :
    evOp P (.build t #[(0, x), (1, y), (2, z)]) id (some s) ⟨env, hp, nx, n⟩ K := go_bd3 h1 h2 h3 hz rfl hd hk
/-- A struct of four new lists as a result. -/
theorem end_fr4 {α1 α2 α3 α4 : Type} {f1 : α1 → List D} {f2 : α2 → List D} {f3 : α3 → List D} {f4 : α4 → List D} {rv : ResultVar} {b1 k1 n1 b2 k2 n2 b3 k3 n3 b4 k4 n4 : Nat} {l1 : List α1} {l2 : List α2} {l3 : List α3} {l4 : List α4}
    (h : resD P ⟨env, hp, nx, n⟩ rv = some (.agg [.os b1 0 n1, .os b2 0 n2, .os b3 0 n3, .os b4 0 n4])) (g1 : lkH hp b1 = some ⟨k1, true, l1.map f1⟩) (g2 : lkH hp b2 = some ⟨k2, true, l2.map f2⟩) (g3 : lkH hp b3 = some ⟨k3, true, l3.map f3⟩) (g4 : lkH hp b4 = some ⟨k4, true, l4.map f4⟩)
    (e1 : n1 = l1.length) (e2 : n2 = l2.length) (e3 : n3 = l3.length) (e4 : n4 = l4.length) (hnd : [b1, b2, b3, b4].Nodup) :
    finK P [rv] (.ret (.agg [.fr k1 (l1.map f1), .fr k2 (l2.map f2), .fr k3 (l3.map f3), .fr k4 (l4.map f4)])) .ret ⟨env, hp, nx, n⟩ := by
  subst e1 e2 e3 e4
  refine ⟨_, rfl, .inr ⟨[.blk b1, .blk b2, .blk b3, .blk b4], [.agg [.os b1 0 l1.length, .os b2 0 l2.length, .os b3 0 l3.length, .os b4 0 l4.length]], [.agg [.fr k1 (l1.map f1), .fr k2 (l2.map f2), .fr k3 (l3.map f3), .fr k4 (l4.map f4)]], by simp [h], by simpa [frsOf] using hnd, ?_, rfl, fun _ => rfl, rfl, rfl⟩⟩
  exact ⟨⟨_, l1.map f1, by simp, g1, rfl, rfl⟩, ⟨_, l2.map f2, by simp, g2, rfl, rfl⟩, ⟨_, l3.map f3, by simp, g3, rfl, rfl⟩, ⟨_, l4.map f4, by simp, g4, rfl, rfl⟩, trivial⟩
/-- Such a struct as a call's result. -/
theorem go_fn_fr4 {α1 α2 α3 α4 : Type} {f1 : α1 → List D} {f2 : α2 → List D} {f3 : α3 → List D} {f4 : α4 → List D} {k1 k2 k3 k4 : Nat} {l1 : List α1} {l2 : List α2} {l3 : List α3} {l4 : List α4} {args : List Operand} {ts : Array TypeId} {g : FuncId} {args' : List D}
    (hpl : pureL (args.map (evalD env)) = true) (hp' : purL (lkH hp) 64 (args.map (evalD env)) = some args') (hc : Contract P g args' (.ret (.agg [.fr k1 (l1.map f1), .fr k2 (l2.map f2), .fr k3 (l3.map f3), .fr k4 (l4.map f4)])))
    (hf1 : LiteF f1 k1) (hf2 : LiteF f2 k2) (hf3 : LiteF f3 k3) (hf4 : LiteF f4 k4) (hd : okDst n (some s) = true)
    (h : K .normal ⟨(s, .agg [.os id 0 l1.length, .os (id + 1) 0 l2.length, .os (id + 2) 0 l3.length, .os (id + 3) 0 l4.length]) :: env, (id, ⟨k1, true, l1.map f1⟩) :: (id + 1, ⟨k2, true, l2.map f2⟩) :: (id + 2, ⟨k3, true, l3.map f3⟩) :: (id + 3, ⟨k4, true, l4.map f4⟩) :: hp, nx, n⟩) :
    evOp P (.call { callee := .value (.func g), args := args.toArray, argTypes := ts }) id (some s) ⟨env, hp, nx, n⟩ K := by
  refine go_call_fn hp' hc (by rw [hpl, Bool.true_or]) (by simp [widR, widE]) hd ?_
  have e : adopt id (.agg [.fr k1 (l1.map f1), .fr k2 (l2.map f2), .fr k3 (l3.map f3), .fr k4 (l4.map f4)]) = (.agg [.os id 0 l1.length, .os (id + 1) 0 l2.length, .os (id + 2) 0 l3.length, .os (id + 3) 0 l4.length],
      [(id, ⟨k1, true, l1.map f1⟩), (id + 1, ⟨k2, true, l2.map f2⟩), (id + 2, ⟨k3, true, l3.map f3⟩), (id + 3, ⟨k4, true, l4.map f4⟩)]) := by
    simp [adopt, adE, adL, adC, flat_lite hf1, flat_lite hf2, flat_lite hf3, flat_lite hf4]
  rw [e]
  exact h
/-- A struct of four lists of one's own, from now on read-only, and a number as results. -/
theorem end_sl4 {α1 α2 α3 α4 : Type} {f1 : α1 → List D} {f2 : α2 → List D} {f3 : α3 → List D} {f4 : α4 → List D} {rv rv2 : ResultVar} {b1 k1 n1 b2 k2 n2 b3 k3 n3 b4 k4 n4 : Nat} {l1 : List α1} {l2 : List α2} {l3 : List α3} {l4 : List α4} {k : IntKind} {e e' : Int}
    (h : resD P ⟨env, hp, nx, n⟩ rv = some (.agg [.os b1 0 n1, .os b2 0 n2, .os b3 0 n3, .os b4 0 n4])) (h2 : resD P ⟨env, hp, nx, n⟩ rv2 = some (.int k e)) (g1 : lkH hp b1 = some ⟨k1, true, l1.map f1⟩) (g2 : lkH hp b2 = some ⟨k2, true, l2.map f2⟩) (g3 : lkH hp b3 = some ⟨k3, true, l3.map f3⟩) (g4 : lkH hp b4 = some ⟨k4, true, l4.map f4⟩)
    (e1 : n1 = l1.length) (e2 : n2 = l2.length) (e3 : n3 = l3.length) (e4 : n4 = l4.length) (he : e = e') :
    finK P [rv, rv2] (.ret (.tup [.agg [.sl (l1.map f1), .sl (l2.map f2), .sl (l3.map f3), .sl (l4.map f4)], .int k e'])) .ret ⟨env, hp, nx, n⟩ := by
  subst he e1 e2 e3 e4
  refine ⟨_, rfl, .inl ⟨[.pure, .pure], [.agg [.os b1 0 l1.length, .os b2 0 l2.length, .os b3 0 l3.length, .os b4 0 l4.length], .int k e], [.agg [.sl (l1.map f1), .sl (l2.map f2), .sl (l3.map f3), .sl (l4.map f4)], .int k e], by simp [h, h2], by simp [frsOf], ?_, rfl, fun hh => by simp at hh⟩⟩
  refine ⟨?_, rfl, trivial⟩
  have q : ∀ {α : Type} {f : α → List D} {k : Nat} {l : List α} (m b : Nat), lkH hp b = some ⟨k, true, l.map f⟩ → pur (without [] (lkH hp)) (m + 1) (.os b 0 l.length) = some (.sl (l.map f)) := @fun α f k l m b hb => pur_whole (k := k) (by simp [without, hb]) rfl
  have c : ∀ (m : Nat) (d : D) (ds : List D) (r : D) (rs : List D), pur (without [] (lkH hp)) m d = some r → purL (without [] (lkH hp)) m ds = some rs → purL (without [] (lkH hp)) (m + 1) (d :: ds) = some (r :: rs) := fun m d ds r rs h1 h2 => by simp [purL, h1, h2]
  show (purL (without [] (lkH hp)) 63 _).map D.agg = _
  exact congrArg (Option.map D.agg) (c 62 _ _ _ _ (q 61 b1 g1) (c 61 _ _ _ _ (q 60 b2 g2) (c 60 _ _ _ _ (q 59 b3 g3) (c 59 _ _ _ _ (q 58 b4 g4) rfl))))
theorem end_nil4 {rv rv2 : ResultVar} {k : IntKind} {e e' : Int} (h : resD P ⟨env, hp, nx, n⟩ rv = some (.agg [.nilsl, .nilsl, .nilsl, .nilsl])) (h2 : resD P ⟨env, hp, nx, n⟩ rv2 = some (.int k e)) (he : e = e') :
    finK P [rv, rv2] (.ret (.tup [.agg [.sl [], .sl [], .sl [], .sl []], .int k e'])) .ret ⟨env, hp, nx, n⟩ := by
  subst he
  exact ⟨_, rfl, .inl ⟨[.pure, .pure], [.agg [.nilsl, .nilsl, .nilsl, .nilsl], .int k e], [.agg [.sl [], .sl [], .sl [], .sl []], .int k e], by simp [h, h2], by simp [frsOf], ⟨rfl, rfl, trivial⟩, rfl, fun hh => by simp at hh⟩⟩
/-- A result that is read-only all through, from pure arguments. -/
theorem go_fn_pr {r : D} {args : List Operand} {ts : Array TypeId} {g : FuncId} {args' : List D} (hpl : pureL (args.map (evalD env)) = true) (hp' : purL (lkH hp) 64 (args.map (evalD env)) = some args') (hc : Contract P g args' (.ret r)) (ha : adopt id r = (r, [])) (hw : widR r ≤ 32) (hd : okDst n (some s) = true)
    (h : K .normal ⟨(s, r) :: env, hp, nx, n⟩) : evOp P (.call { callee := .value (.func g), args := args.toArray, argTypes := ts }) id (some s) ⟨env, hp, nx, n⟩ K :=
  go_call_fn hp' hc (by rw [hpl, Bool.true_or]) hw hd (by rw [ha]; exact h)
theorem purL_2os {α : Type} {f : α → List D} {hq : Nat → Option Blk} {b k len : Nat} {l : List α} {d d' : D} (h1 : pur hq 63 d = some d') (hb : hq b = some ⟨k, true, l.map f⟩) (hlen : len = l.length) : purL hq 64 [d, .os b 0 len] = some [d', .sl (l.map f)] := by
  have h2 : pur hq 62 (.os b 0 len) = some (.sl (l.map f)) := pur_whole hb hlen
  simp [purL, h1, h2]
end
end Go.Pv

/- Calls that write into a block of the caller's, by its pointer or in a closure; the caller's other blocks are read-only to the callee. -/
namespace Go.Pv
section
variable {P : Program} {K : X → St → Prop} {env : Env} {hp : Hp} {nx n id : Nat}
theorem goM_callX {all rest : List Oper} {dst : Option Tmp} {ty : TypeId} {pos : String} {af : Array Edge} {f : Operand} {args : List Operand} {ts : Array TypeId} {g : FuncId} {xs ys ds args' : List D} (b : Nat) {blk blk' : Blk} {r r' : D} (hf : evalD env f = .clo (.func g) xs ys) (ha : args.map (evalD env) = ds)
    (hb : lkH hp b = some blk) (hs : scalR blk.rows = true) (hin : inXL hp b (xs ++ ds ++ ys) = some args') (hos : hasXL b (xs ++ ds ++ ys) = true)
    (hc : ContractM P g args' blk r blk') (hr : outR b r = r') (hd : okDst n dst = true) (h : evOpsM P all rest (id + 32) ⟨putE dst r' env, updH b blk' hp, nx, n⟩ K) :
    evOpsM P all ({ dst := dst, op := .call { callee := .value f, args := args.toArray, argTypes := ts }, type := ty, pos := pos, after := af, guard := none } :: rest) id ⟨env, hp, nx, n⟩ K := by
  subst ha hr
  refine .inr ⟨rfl, .inr (.inr (.inr (.inl ?_)))⟩
  unfold evCallX
  simp only [hf]
  exact ⟨b, blk, args', r, blk', hb, hs, by simpa using hin, by simpa using hos, hc, hd, h⟩
theorem go_linec_callX {l rest : List Oper} {m : Nat} {zs : List (List Nat)} {z : List Nat} {dst : Option Tmp} {ty : TypeId} {pos : String} {af : Array Edge} {gd : Option (Nat × Bool)} {f : Operand} {args : List Operand} {ts : Array TypeId} {g : FuncId} {xs ys ds args' : List D} (b : Nat) {blk blk' : Blk} {r r' : D}
    (hf : evalD env f = .clo (.func g) xs ys) (ha : args.map (evalD env) = ds) (hb : lkH hp b = some blk) (hs : scalR blk.rows = true) (hin : inXL hp b (xs ++ ds ++ ys) = some args') (hos : hasXL b (xs ++ ds ++ ys) = true)
    (hc : ContractM P g args' blk r blk') (hr : outR b r = r') (hd : okDst n dst = true) (h : kLc P l m rest zs z id K .normal ⟨putE dst r' env, updH b blk' hp, nx, n⟩) :
    evLineM P l m ({ dst := dst, op := .call { callee := .value f, args := args.toArray, argTypes := ts }, type := ty, pos := pos, after := af, guard := gd } :: rest) (z :: zs) id ⟨env, hp, nx, n⟩ K := by
  subst ha hr
  refine .inr (.inr (.inl ?_))
  unfold evCallX
  simp only [hf]
  exact ⟨b, blk, args', r, blk', hb, hs, by simpa using hin, by simpa using hos, hc, hd, h⟩
end
end Go.Pv

/- Copies into a part of an own list; functions without results. -/
namespace Go.Pv
section
variable {P : Program} {K : X → St → Prop} {env : Env} {hp : Hp} {nx n id : Nat}
theorem copy_facts {α : Type} {f : α → List D} {k : Nat} (hf : LiteF f k) (l : List α) (a b c : Nat) (new : List α) : (∀ r ∈ new.map f, r.length = k) ∧ (∀ r ∈ new.map f, ∀ c ∈ r, cell1 c = true) ∧ flatRows ((l.map f).take a ++ (new.map f).take b ++ (l.map f).drop c) = true := by
  refine ⟨fun r hr => ?_, fun r hr c hc => ?_, ?_⟩
  · obtain ⟨a, _, rfl⟩ := List.mem_map.1 hr
    exact (hf a).1
  · obtain ⟨a, _, rfl⟩ := List.mem_map.1 hr
    exact List.all_eq_true.1 (hf a).2.2 c hc
  · rw [← List.map_take, ← List.map_take, ← List.map_drop, ← List.map_append, ← List.map_append]
    exact flat_lite hf _
/-- A copy of a list of the call's own, or of a read-only one, into a part of an own list. -/
theorem evCopy_of {α : Type} {f : α → List D} {l new r : List α} {dst : Option Tmp} {t e : TypeId} {x y : Operand} {b k k' off len m : Nat} {fl : Bool} {rows : List (List D)} [hs : TSlice P t e k] (hf : LiteF f k)
    (ha : evalD env x = .os b off len) (hb : lkH hp b = some ⟨k', fl, rows⟩) (hr : rows = l.map f) (hk : k' = k) (hl : off + len ≤ l.length) (hy : contentD (lkH hp) (evalD env y) = some (new.map f)) (hky : kOK (lkH hp) k (evalD env y) = true) (hm : min len new.length = m) (h0 : 0 < m) (he : l.take off ++ new.take m ++ l.drop (off + m) = r) (hd : okDst n dst = true)
    (h : K .normal ⟨putE dst (.int .i64 m) env, updH b ⟨k, true, r.map f⟩ hp, nx, n⟩) :
    evCopy P (.call { callee := .builtin .copy, args := #[x, y], argTypes := #[t, t] }) dst ⟨env, hp, nx, n⟩ K := by
  subst hk hr he
  obtain ⟨f1, f2, f3⟩ := copy_facts hf l off m (off + m) new
  refine ⟨x, y, t, e, b, off, len, m, ⟨k', fl, l.map f⟩, new.map f, true, _, rfl, rfl, hs.u, by rw [hs.c]; exact hs.p, ha, hb, hs.c.symm, by simpa using hl, by simpa using hm, h0, hy, fun r hr => by rw [hs.c]; exact f1 r hr, f2, ?_, fun _ => f3, by rw [hs.c]; exact hky, hd, ?_⟩
  · rfl
  · simpa [List.map_take, List.map_drop, List.map_append] using h
theorem goM_copyAt {α : Type} {f : α → List D} {l new r : List α} {all rest : List Oper} {dst : Option Tmp} {ty : TypeId} {pos : String} {af : Array Edge} {t e : TypeId} {x y : Operand} {b k k' off len m : Nat} {fl : Bool} {rows : List (List D)} [hs : TSlice P t e k] (hf : LiteF f k)
    (ha : evalD env x = .os b off len) (hb : lkH hp b = some ⟨k', fl, rows⟩) (hr : rows = l.map f) (hk : k' = k) (hl : off + len ≤ l.length) (hy : contentD (lkH hp) (evalD env y) = some (new.map f)) (hky : kOK (lkH hp) k (evalD env y) = true) (hm : min len new.length = m) (h0 : 0 < m) (he : l.take off ++ new.take m ++ l.drop (off + m) = r) (hd : okDst n dst = true)
    (h : evOpsM P all rest (id + 32) ⟨putE dst (.int .i64 m) env, updH b ⟨k, true, r.map f⟩ hp, nx, n⟩ K) :
    evOpsM P all ({ dst := dst, op := .call { callee := .builtin .copy, args := #[x, y], argTypes := #[t, t] }, type := ty, pos := pos, after := af, guard := none } :: rest) id ⟨env, hp, nx, n⟩ K :=
  .inr ⟨rfl, .inr (.inr (.inr (.inr (evCopy_of hf ha hb hr hk hl hy hky hm h0 he hd h))))⟩
theorem go_linec_copyAt {α : Type} {f : α → List D} {l new r : List α} {ops rest : List Oper} {mm : Nat} {zs : List (List Nat)} {z : List Nat} {dst : Option Tmp} {ty : TypeId} {pos : String} {af : Array Edge} {gd : Option (Nat × Bool)} {t e : TypeId} {x y : Operand} {b k k' off len m : Nat} {fl : Bool} {rows : List (List D)} [hs : TSlice P t e k] (hf : LiteF f k)
    (ha : evalD env x = .os b off len) (hb : lkH hp b = some ⟨k', fl, rows⟩) (hr : rows = l.map f) (hk : k' = k) (hl : off + len ≤ l.length) (hy : contentD (lkH hp) (evalD env y) = some (new.map f)) (hky : kOK (lkH hp) k (evalD env y) = true) (hm : min len new.length = m) (h0 : 0 < m) (he : l.take off ++ new.take m ++ l.drop (off + m) = r) (hd : okDst n dst = true)
    (h : kLc P ops mm rest zs z id K .normal ⟨putE dst (.int .i64 m) env, updH b ⟨k, true, r.map f⟩ hp, nx, n⟩) :
    evLineM P ops mm ({ dst := dst, op := .call { callee := .builtin .copy, args := #[x, y], argTypes := #[t, t] }, type := ty, pos := pos, after := af, guard := gd } :: rest) (z :: zs) id ⟨env, hp, nx, n⟩ K :=
  .inr (.inr (.inr (evCopy_of hf ha hb hr hk hl hy hky hm h0 he hd h)))
/-- Functions without results. -/
theorem fin_unit {st : St} : Fin P [] st (.tup []) := .inl ⟨[], [], [], rfl, by simp [frsOf], trivial, rfl, fun h => by simp at h⟩
theorem end_unit {st : St} : finK P [] (.ret (.tup [])) .normal st := finK_normal fin_unit
theorem end_unit' {st : St} : finK P [] (.ret (.tup [])) .ret st := finK_ret fin_unit
/-- A call of a closure with two arguments and no result. -/
theorem go_clo2_unit {f x y : Operand} {dst : Option Tmp} {ts : Array TypeId} {g : FuncId} {ys : List D} {d1 d2 : D} (hf : evalD env f = .clo (.func g) [] ys) (hx : pur (lkH hp) 63 (evalD env x) = some d1) (hy : pur (lkH hp) 62 (evalD env y) = some d2) (hst : Stab ys) (hc : Contract P g (d1 :: d2 :: ys) (.ret (.tup []))) (hd : okDst n dst = true)
    (h : K .normal ⟨putE dst (.tup []) env, hp, nx, n⟩) : evOp P (.call { callee := .value f, args := #[x, y], argTypes := ts }) id dst ⟨env, hp, nx, n⟩ K := by
  refine go_call (args := [x, y]) hf ?_ hc (by simp [refless]) (Nat.le_of_ble_eq_true rfl) hd h
  simp only [List.map_cons, List.map_nil, List.nil_append, List.cons_append, List.append_nil, purL, hx, hy, Option.bind_some]
  rw [hst (lkH hp) 46]
  rfl
/-- A call of a function value that captures nothing. -/
theorem go_cloI {f : Operand} {args : List Operand} {s : Tmp} {ts : Array TypeId} {g : FuncId} {args' : List D} {k : IntKind} {q : Int} (hf : evalD env f = .clo (.func g) [] []) (hp' : purL (lkH hp) 64 (args.map (evalD env)) = some args') (hc : Contract P g args' (.ret (.int k q))) (hd : okDst n (some s) = true)
    (h : K .normal ⟨(s, .int k q) :: env, hp, nx, n⟩) : evOp P (.call { callee := .value f, args := args.toArray, argTypes := ts }) id (some s) ⟨env, hp, nx, n⟩ K :=
  go_call (xs := []) (ys := []) hf (by simpa using hp') hc (Bool.or_true _) (Nat.le_of_ble_eq_true rfl) hd h
/-- A number that is not negative, made one without a sign. -/
theorem go_convU {t t' : TypeId} {x : Operand} {s : Tmp} {k0 : IntKind} {a : Int} [h0 : TInt P t k0] [h1 : TInt P t' .u64] (h : evalD env x = .int k0 a) (hd : okDst n (some s) = true) (hr : 0 ≤ a ∧ a ≤ 9223372036854775807) (hk : K .normal ⟨(s, .int .u64 a) :: env, hp, nx, n⟩) : evOp P (.convert t t' x) id (some s) ⟨env, hp, nx, n⟩ K := by
  rw [evOp_convert]
  refine ⟨.int .u64 a, ?_, hd, hk⟩
  rw [h]
  simp only [convD, h1.h, h0.h, Option.isSome_some, if_true]
  rw [show IntKind.wrap .u64 a = a by simp only [IntKind.wrap, IntKind.bits, IntKind.signed]; first | omega | (simp; omega)]
theorem go_bd4_int {t : TypeId} {x y z u : Operand} {s : Tmp} {zs : List D} {k1 k2 k3 k4 : IntKind} {a b c d : Int} [hl : TLay P t zs [(0, 1), (1, 1), (2, 1), (3, 1)]] (h1 : evalD env x = .int k1 a) (h2 : evalD env y = .int k2 b) (h3 : evalD env z = .int k3 c) (h4 : evalD env u = .int k4 d) (hz : zs.length = 4)
    (hd : okDst n (some s) = true) (hk : K .normal ⟨(s, .agg [.int k1 a, .int k2 b, .int k3 c, .int k4 d]) :: env, hp, nx, n⟩) :
    evOp P (.build t #[(0, x), (1, y), (2, z), (3, u)]) id (some s) ⟨env, hp, nx, n⟩ K := go_bd4 h1 h2 h3 h4 hz rfl rfl rfl rfl rfl hd hk
end
end Go.Pv

/- A closure with five captured variables. -/
namespace Go.Pv
section
variable {P : Program} {K : X → St → Prop} {env : Env} {hp : Hp} {nx n id : Nat}
theorem go_fn5 {fn : Fn} {s : Tmp} {x y z u v : Operand} {b1 r1 o1 b2 r2 o2 b3 r3 o3 b4 r4 o4 b5 r5 o5 : Nat} (h1 : evalD env x = .op b1 r1 o1) (h2 : evalD env y = .op b2 r2 o2) (h3 : evalD env z = .op b3 r3 o3) (h4 : evalD env u = .op b4 r4 o4) (h5 : evalD env v = .op b5 r5 o5)
    (hd : okDst n (some s) = true) (hk : K .normal ⟨(s, .clo fn [] [.op b1 r1 o1, .op b2 r2 o2, .op b3 r3 o3, .op b4 r4 o4, .op b5 r5 o5]) :: env, hp, nx, n⟩) : evOp P (.makeFunc fn #[] #[x, y, z, u, v]) id (some s) ⟨env, hp, nx, n⟩ K :=
  go_fn (xs := []) (ys := [x, y, z, u, v]) rfl (by simp [h1, h2, h3, h4, h5]) hd hk
end
end Go.Pv

/- Operations on small numbers without a sign. -/
namespace Go.Pv
theorem wrapU {a : Int} (h : 0 ≤ a ∧ a ≤ 9223372036854775807) : IntKind.wrap .u64 a = a := by
  simp only [IntKind.wrap, IntKind.bits, IntKind.signed]
  first | omega | (simp; omega)
section
variable {P : Program} {K : X → St → Prop} {env : Env} {hp : Hp} {nx n id : Nat} {t t' : TypeId} {x y : Operand} {s : Tmp}
theorem go_mulU {a b : Int} (h1 : evalD env x = .int .u64 a) (h2 : evalD env y = .int .u64 b) (hd : okDst n (some s) = true) (hr : 0 ≤ a * b ∧ a * b ≤ 9223372036854775807) (hk : K .normal ⟨(s, (.int .u64 (a * b))) :: env, hp, nx, n⟩) :
    evOp P (.binOp .mul t x y t') id (some s) ⟨env, hp, nx, n⟩ K := go_bin (d := .int .u64 (a * b)) (by rw [h1, h2]; simp [binD, intD, wrapU hr]) hd hk
theorem go_addU {a b : Int} (h1 : evalD env x = .int .u64 a) (h2 : evalD env y = .int .u64 b) (hd : okDst n (some s) = true) (hr : 0 ≤ a + b ∧ a + b ≤ 9223372036854775807) (hk : K .normal ⟨(s, (.int .u64 (a + b))) :: env, hp, nx, n⟩) :
    evOp P (.binOp .add t x y t') id (some s) ⟨env, hp, nx, n⟩ K := go_bin (d := .int .u64 (a + b)) (by rw [h1, h2]; simp [binD, intD, wrapU hr]) hd hk
theorem go_shrU {a : Int} {k : IntKind} (h1 : evalD env x = .int .u64 a) (h2 : evalD env y = .int k 32) (hd : okDst n (some s) = true) (hr : 0 ≤ a ∧ a ≤ 4294967295) (hk : K .normal ⟨(s, (.int .u64 0)) :: env, hp, nx, n⟩) :
    evOp P (.binOp .shr t x y t') id (some s) ⟨env, hp, nx, n⟩ K := by
  refine go_bin (d := .int .u64 0) ?_ hd hk
  rw [h1, h2]
  have e : a.fdiv (2 ^ 32) = 0 := by
    rw [Int.fdiv_eq_ediv_of_nonneg _ (by decide)]
    exact Int.ediv_eq_zero_of_lt hr.1 (by omega)
  simp [binD, IntKind.bits]
  exact e
theorem go_andU {a : Int} (h1 : evalD env x = .int .u64 a) (h2 : evalD env y = .int .u64 4294967295) (hd : okDst n (some s) = true) (hr : 0 ≤ a ∧ a ≤ 4294967295) (hk : K .normal ⟨(s, (.int .u64 a)) :: env, hp, nx, n⟩) :
    evOp P (.binOp .and t x y t') id (some s) ⟨env, hp, nx, n⟩ K := by
  refine go_bin (d := .int .u64 a) ?_ hd hk
  rw [h1, h2]
  obtain ⟨m, rfl⟩ : ∃ m : Nat, a = m := ⟨a.toNat, by omega⟩
  have e : (BitVec.ofInt 64 (m : Int) &&& BitVec.ofInt 64 4294967295).toNat = m := by
    rw [BitVec.toNat_and]
    have e1 : (BitVec.ofInt 64 (m : Int)).toNat = m := by simp [BitVec.toNat_ofInt]; omega
    have e2 : (BitVec.ofInt 64 4294967295).toNat = 2 ^ 32 - 1 := by decide
    rw [e1, e2, Nat.and_two_pow_sub_one_eq_mod]
    exact Nat.mod_eq_of_lt (by omega)
  have e' : ((BitVec.ofInt IntKind.u64.bits (m : Int) &&& BitVec.ofInt IntKind.u64.bits 4294967295).toNat : Int) = m := congrArg (fun n : Nat => (n : Int)) e
  simp only [binD, intD, if_true]
  rw [e', wrapU (by omega)]
end
end Go.Pv

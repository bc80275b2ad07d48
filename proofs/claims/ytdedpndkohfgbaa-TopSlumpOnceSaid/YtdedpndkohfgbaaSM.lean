import Derived.Test.YtdedpndkohfgbaaProg
import Derived.Test.YtdedpndkohfgbaaSL
import Derived.KernelRfl
/- Part of the proofs over Ytdedpndkohfgbaa: S31, S34, S32, S33, S35, S36. -/
set_option linter.unusedVariables false
set_option linter.unusedSimpArgs false
set_option linter.unnecessarySimpa false
open Go Go.Proofs Go.Pv
set_option maxHeartbeats 2000000
set_option maxRecDepth 100000
set_option linter.unusedSimpArgs false
set_option linter.unusedVariables false
namespace Go.Pv.Soil

theorem soilE_ok {x : Soil} (h : soilE x = 0) : 1 ≤ x.a ∧ x.a ≤ 1000 := by
  unfold soilE at h
  split at h
  · omega
  · omega
theorem soilsE_ok {l : List Soil} (h : soilsE l = 0) {i : Nat} (hi : i < l.length) : soilE l[i] = 0 := by
  unfold soilsE at h
  split at h
  · omega
  · split at h
    · omega
    · exact (eachE_all h hi).2
theorem layRun_bd {g : Ground} {b : Boring} (hg : OkG g) (hb : OkBoring g.soils b) {i : Nat} (hi : i < b.layers.length) : 1 ≤ layRun g b i ∧ layRun g b i ≤ 1000 := by
  obtain ⟨h1, h2, h3⟩ := layRun_at hb hi
  rw [h3]
  exact soilE_ok (soilsE_ok hg.soils h2)
theorem runL_bd {g : Ground} {b : Boring} (hg : OkG g) (hb : OkBoring g.soils b) : ∀ n, n ≤ b.layers.length → 0 ≤ runL g b n ∧ runL g b n ≤ 1000 ∧ (0 < n → 1 ≤ runL g b n)
  | 0, _ => ⟨Int.le_refl _, (show (0 : Int) ≤ 1000 by decide), fun h => absurd h (by omega)⟩
  | n + 1, h => by
    have h1 := runL_bd hg hb n (by omega)
    have h2 := layRun_bd hg hb (i := n) (by omega)
    simp only [runL]
    omega
theorem runE_bd {g : Ground} (hg : OkG g) {n : Nat} (hn : n < g.borings.length) : 1 ≤ runE g n ∧ runE g n ≤ 1000 := by
  have hb := hg.bor _ hn
  have e : runE g n = runL g g.borings[n] g.borings[n].layers.length := by simp only [runE, List.getElem?_eq_getElem hn]
  rw [e]
  have := runL_bd hg hb _ (Nat.le_refl _)
  have := hb.len
  omega

/-- The gentlest slope at a cell. -/
def cellRun (g : Ground) (m : Grid) (i : Nat) : Int := runE g (nearE g (centreE m i))
theorem cellRun_bd {g : Ground} (hg : OkG g) (m : Grid) (i : Nat) : 1 ≤ cellRun g m i ∧ cellRun g m i ≤ 1000 := runE_bd hg (near_lt hg.n.1)
/-- How much two cells may differ. -/
def allowE (g : Ground) (m : Grid) (a b : Nat) : Int := 10 * m.side / max (cellRun g m a) (cellRun g m b)
theorem allowE_comm (g : Ground) (m : Grid) (a b : Nat) : allowE g m a b = allowE g m b a := by simp only [allowE, Int.max_comm]
theorem allowE_bd {g : Ground} (hg : OkG g) {m : Grid} (hm : OkGrid m) (a b : Nat) : 1 ≤ allowE g m a b ∧ allowE g m a b ≤ 100000 := by
  have h1 := cellRun_bd hg m a
  have h2 := cellRun_bd hg m b
  have hs := hm.bds.2.1
  unfold allowE
  constructor
  · exact Int.le_ediv_of_mul_le (by omega) (by omega)
  · exact Int.le_trans (Int.ediv_le_self _ (by omega)) (by omega)

structure Steep where
  high : Int
  low : Int
  over : Int
def encSteep (s : Steep) : List D := [.int .i64 s.high, .int .i64 s.low, .int .i64 s.over]
theorem scalSteep : ScalF encSteep 3 := fun _ => ⟨rfl, rfl⟩
/-- Two cells side by side that differ too much. -/
def steepOf (g : Ground) (m : Grid) (a : Nat) (b : Int) : List Steep :=
  if b < a ∨ lv m.levels a = 30000 ∨ lv m.levels b.toNat = 30000 then []
  else if lv m.levels a < lv m.levels b.toNat then (if 0 < lv m.levels b.toNat - lv m.levels a - allowE g m a b.toNat then [⟨b, a, lv m.levels b.toNat - lv m.levels a - allowE g m a b.toNat⟩] else [])
  else (if 0 < lv m.levels a - lv m.levels b.toNat - allowE g m a b.toNat then [⟨a, b, lv m.levels a - lv m.levels b.toNat - allowE g m a b.toNat⟩] else [])
def steepRow (g : Ground) (m : Grid) (a : Nat) (l : List Int) : List Steep := l.flatMap (steepOf g m a)
def steepL (g : Ground) (m : Grid) (n : Nat) : List Steep := (List.range n).flatMap fun a => steepRow g m a (nearL m a m.levels.length)

theorem steepRow_succ (g : Ground) (m : Grid) (a : Nat) {l : List Int} {j : Nat} (hj : j < l.length) : steepRow g m a (l.take (j + 1)) = steepRow g m a (l.take j) ++ steepOf g m a l[j] := by
  rw [List.take_succ_eq_append_getElem hj]; simp only [steepRow, List.flatMap_append, List.flatMap_cons, List.flatMap_nil, List.append_nil]
theorem steepL_succ (g : Ground) (m : Grid) (n : Nat) : steepL g m (n + 1) = steepL g m n ++ steepRow g m n (nearL m n m.levels.length) := by
  simp [steepL, List.range_succ]
theorem steepOf_len (g : Ground) (m : Grid) (a : Nat) (b : Int) : (steepOf g m a b).length ≤ 1 := by
  unfold steepOf
  (repeat' split) <;> simp
theorem steepRow_len (g : Ground) (m : Grid) (a : Nat) : ∀ l : List Int, (steepRow g m a l).length ≤ l.length
  | [] => by simp [steepRow]
  | b :: l => by
    have := steepRow_len g m a l
    have := steepOf_len g m a b
    simp only [steepRow, List.flatMap_cons, List.length_append, List.length_cons] at *
    omega
theorem steepL_len (g : Ground) (m : Grid) : ∀ n, (steepL g m n).length ≤ n * m.levels.length
  | 0 => by simp [steepL]
  | n + 1 => by
    have h1 := steepL_len g m n
    have h2 := steepRow_len g m n (nearL m n m.levels.length)
    have h3 := nearL_len m n m.levels.length
    rw [steepL_succ, List.length_append, Nat.succ_mul]
    omega
theorem nearL_mem (g : Grid) (i : Nat) (x : Int) : ∀ n, x ∈ nearL g i n ↔ ∃ k : Nat, k < n ∧ x = k ∧ besideE g i k = true
  | 0 => by simp [nearL]
  | n + 1 => by
    have ih := nearL_mem g i x n
    simp only [nearL]
    split
    · rename_i h
      simp only [List.mem_append, ih, List.mem_singleton]
      constructor
      · rintro (⟨k, h1, h2, h3⟩ | h1)
        · exact ⟨k, by omega, h2, h3⟩
        · exact ⟨n, by omega, h1, h⟩
      · rintro ⟨k, h1, h2, h3⟩
        by_cases e : k = n
        · subst e; exact .inr h2
        · exact .inl ⟨k, by omega, h2, h3⟩
    · rename_i h
      rw [ih]
      constructor
      · rintro ⟨k, h1, h2, h3⟩
        exact ⟨k, by omega, h2, h3⟩
      · rintro ⟨k, h1, h2, h3⟩
        refine ⟨k, ?_, h2, h3⟩
        by_cases e : k = n
        · subst e; exact absurd h3 h
        · omega

/-- The net of a grid. -/
def netE (g : Ground) (m : Grid) : Net := ⟨fun i k => besideE m i k = true, allowE g m⟩
theorem netE_ok {g : Ground} (hg : OkG g) {m : Grid} (hm : OkGrid m) (n : Nat) : (netE g m).Ok n := by
  refine ⟨fun i k h => ?_, allowE_comm g m, fun i k _ _ _ => (allowE_bd hg hm i k).1, fun i h => ?_⟩
  · simp only [netE, besideE, decide_eq_true_eq] at h ⊢
    omega
  · simp only [netE, besideE, decide_eq_true_eq] at h
    omega
theorem steepL_mem {g : Ground} {m : Grid} {s : Steep} {n : Nat} (hn : n ≤ m.levels.length) (h : s ∈ steepL g m n) : ∃ i k : Nat, s.high = i ∧ s.low = k ∧ i < m.levels.length ∧ k < m.levels.length ∧ besideE m i k = true ∧ lv m.levels i ≠ 30000 ∧ lv m.levels k ≠ 30000 ∧ allowE g m i k < lv m.levels i - lv m.levels k := by
  simp only [steepL, List.mem_flatMap, List.mem_range, steepRow] at h
  obtain ⟨a, ha, b, hb, h⟩ := h
  obtain ⟨k, h1, h2, h3⟩ := (nearL_mem m a b _).1 hb
  subst h2
  simp only [steepOf, Int.toNat_natCast] at h
  split at h
  · simp at h
  · rename_i hu
    split at h
    · split at h
      · simp only [List.mem_singleton] at h
        subst h
        refine ⟨k, a, rfl, rfl, h1, by omega, ?_, by omega, by omega, ?_⟩
        · simp only [besideE, decide_eq_true_eq] at h3 ⊢
          omega
        · rw [allowE_comm]; omega
      · simp at h
    · split at h
      · simp only [List.mem_singleton] at h
        subst h
        exact ⟨a, k, rfl, rfl, by omega, h1, h3, by omega, by omega, by omega⟩
      · simp at h
theorem steepL_of {g : Ground} {m : Grid} {a k : Nat} (ha : a < m.levels.length) (hk : k < m.levels.length) (hb : besideE m a k = true) (hne : steepOf g m a k ≠ []) : steepL g m m.levels.length ≠ [] := by
  intro h
  simp only [steepL, List.flatMap_eq_nil_iff, List.mem_range, steepRow] at h
  exact hne (h a ha k ((nearL_mem m a k _).2 ⟨k, hk, rfl, hb⟩))
theorem steepL_nil (g : Ground) (m : Grid) : steepL g m m.levels.length = [] ↔ Stable (netE g m) m.levels := by
  constructor
  · intro h i k hi hk hb h1 h2
    have hb : besideE m i k = true := hb
    refine Classical.byContradiction fun hc => ?_
    have hc : allowE g m i k < lv m.levels i - lv m.levels k := Int.not_le.1 hc
    have hb' : besideE m k i = true := by
      simp only [besideE, decide_eq_true_eq] at hb ⊢
      omega
    by_cases hik : i < k
    · refine steepL_of hi hk hb ?_ h
      simp only [steepOf, Int.toNat_natCast]
      rw [if_neg (by omega)]
      split <;> (rw [if_pos (by omega)]; simp)
    · refine steepL_of hk hi hb' ?_ h
      simp only [steepOf, Int.toNat_natCast]
      rw [if_neg (by omega), allowE_comm]
      split <;> (rw [if_pos (by omega)]; simp)
  · intro h
    cases hl : steepL g m m.levels.length with
    | nil => rfl
    | cons s r =>
      obtain ⟨i, k, _, _, h1, h2, h3, h4, h5, h6⟩ := steepL_mem (Nat.le_refl _) (show s ∈ steepL g m m.levels.length by rw [hl]; exact List.mem_cons_self)
      have := h i k h1 h2 h3 h4 h5
      have : lv m.levels i - lv m.levels k ≤ allowE g m i k := this
      omega
end Go.Pv.Soil

open Go Go.Proofs Go.Pv
set_option maxHeartbeats 2000000
set_option maxRecDepth 100000
set_option linter.unusedSimpArgs false
set_option linter.unusedVariables false
namespace Go.Pv.Soil

/-- A grid with other levels. -/
def gridL (m : Grid) (l : List Int) : Grid := ⟨m.x, m.y, m.side, m.cols, m.rows, l⟩
theorem netE_gridL (g : Ground) (m : Grid) (l : List Int) : netE g (gridL m l) = netE g m := rfl
theorem OkGrid.rng {m : Grid} (h : OkGrid m) : ∀ i, i < m.levels.length → lv m.levels i ≠ 30000 → -20000 ≤ lv m.levels i ∧ lv m.levels i ≤ 20000 := by
  intro i hi hk
  rw [lv_get hi] at hk ⊢
  rcases h.lvl i hi with h | h
  · exact absurd h hk
  · simpa [lvOK] using h
theorem OkGrid.withL {m : Grid} (h : OkGrid m) {l : List Int} (hl : l.length = m.levels.length) (hr : ∀ i, i < l.length → lv l i ≠ 30000 → -20000 ≤ lv l i ∧ lv l i ≤ 20000) : OkGrid (gridL m l) := by
  refine ⟨h.bds, h.cells, h.ends, by show (l.length : Int) = _; rw [hl]; exact h.len, fun i hi => ?_⟩
  have hi : i < l.length := hi
  have := hr i hi
  rw [lv_get hi] at this
  by_cases e : l[i] = 30000
  · exact .inl e
  · exact .inr (by show lvOK l[i] = true; simpa [lvOK] using this e)

/-- The bed at which the work ends. -/
noncomputable def slumpE (g : Ground) (m : Grid) (w : Int) : List Int := Classical.epsilon fun r => IsGS (netE g m) w m.levels r
theorem slumpE_gs {g : Ground} (hg : OkG g) {m : Grid} (hm : OkGrid m) {w : Int} (hw : w = -1 ∨ w = 1) : IsGS (netE g m) w m.levels (slumpE g m w) := by
  obtain ⟨r, h, _⟩ := gs_exists (netE_ok hg hm m.levels.length) hw rfl hm.rng
  exact Classical.epsilon_spec (p := fun r => IsGS (netE g m) w m.levels r) ⟨r, h⟩
theorem slumpE_eq {g : Ground} (hg : OkG g) {m : Grid} (hm : OkGrid m) {w : Int} (hw : w = -1 ∨ w = 1) {r : List Int} (h : IsGS (netE g m) w m.levels r) : r = slumpE g m w := h.uniq hw (slumpE_gs hg hm hw)
theorem slumpE_mid {g : Ground} (hg : OkG g) {m : Grid} (hm : OkGrid m) {w : Int} (hw : w = -1 ∨ w = 1) : Mid (netE g m) w m.levels (slumpE g m w) := gs_rng hw (netE_ok hg hm _) hm.rng (slumpE_gs hg hm hw)
theorem slumpE_ok {g : Ground} (hg : OkG g) {m : Grid} (hm : OkGrid m) {w : Int} (hw : w = -1 ∨ w = 1) : OkGrid (gridL m (slumpE g m w)) :=
  hm.withL (slumpE_gs hg hm hw).below.1 (slumpE_mid hg hm hw).rng
/-- What moves, in volume. -/
noncomputable def fallE (g : Ground) (m : Grid) (w : Int) : Int := (total w (slumpE g m w) - total w m.levels) * m.side * m.side
theorem left_bd {w : Int} (hw : w = -1 ∨ w = 1) : ∀ {l : List Int}, (∀ i, i < l.length → lv l i ≠ 30000 → -20000 ≤ lv l i ∧ lv l i ≤ 20000) → left w l ≤ 70000 * l.length
  | [], _ => by simp [left]
  | a :: l, h => by
    have h0 := h 0 (by simp)
    have := left_bd hw (l := l) fun i hi => by simpa [lv] using h (i + 1) (by simpa using hi)
    simp only [lv, List.getD_cons_zero] at h0
    simp only [left, List.map_cons, List.sum_cons, List.length_cons] at this ⊢
    by_cases ha : a = 30000
    · subst ha
      rcases hw with rfl | rfl <;> omega
    · have := h0 ha
      rcases hw with rfl | rfl <;> omega
theorem total_bd {w : Int} (hw : w = -1 ∨ w = 1) : ∀ {m s : List Int}, Beyond w m s → (∀ i, i < m.length → lv m i ≠ 30000 → -20000 ≤ lv m i ∧ lv m i ≤ 20000) → (∀ i, i < s.length → lv s i ≠ 30000 → -20000 ≤ lv s i ∧ lv s i ≤ 20000) → 0 ≤ total w s - total w m ∧ total w s - total w m ≤ 40000 * m.length
  | [], [], _, _, _ => by simp [total]
  | [], _ :: _, h, _, _ => absurd h.1 (by simp)
  | _ :: _, [], h, _, _ => absurd h.1 (by simp)
  | a :: m, b :: s, h, hm, hs => by
    have h0 := h.2 0 (by simp)
    have hm0 := hm 0 (by simp)
    have hs0 := hs 0 (by simp)
    have ht : Beyond w m s := ⟨by simpa using h.1, fun i hi => by simpa [lv] using h.2 (i + 1) (by simpa using hi)⟩
    have := total_bd hw ht (fun i hi => by simpa [lv] using hm (i + 1) (by simpa using hi)) (fun i hi => by simpa [lv] using hs (i + 1) (by simpa using hi))
    simp only [lv, List.getD_cons_zero] at h0 hm0 hs0
    simp only [total, List.map_cons, List.sum_cons, List.length_cons] at this ⊢
    by_cases ha : a = 30000
    · have := h0.1.2 ha
      subst ha; subst this
      omega
    · have hb : b ≠ 30000 := fun e => ha (h0.1.1 e)
      have := hm0 ha
      have := hs0 hb
      have := h0.2 ha
      rcases hw with rfl | rfl <;> omega
end Go.Pv.Soil

open Go Go.Proofs Go.Pv
set_option maxHeartbeats 2000000
set_option maxRecDepth 100000
set_option linter.unusedSimpArgs false
set_option linter.unusedVariables false
namespace Go.Pv.Soil

theorem c152 (g : Grid) (h : OkGrid g) (h0 : gridE g = 0) (i : Nat) (hi : i < g.levels.length) : Contract Try.prog 152 [.agg (encGrid g), .int .i64 i] (.ret (.tup [.fr 1 ((nearL g i g.levels.length).map encInt), .int .i64 0])) := by
  refine contract_of mix Try.func152 rfl rfl (by rw [Try.ntmps152]; exact Nat.le_of_ble_eq_true rfl) ?_; rw [Try.results152, Try.ntmps152]; simp only [argsE, Nat.reduceAdd]
  repeat' first
           | (with_reducible apply go_op)
           | (with_reducible apply go_next)
           | ((with_reducible (show evOp _ _ _ _ _ _)); first
             | ((with_reducible (show evOp _ (.move _) _ _ _ _)) ; first | ((with_reducible apply go_mv_int); rfl; rfl) | ((with_reducible apply go_mv_os); rfl; rfl) | ((with_reducible apply go_mv_nilsl); rfl; rfl))
             | ((with_reducible apply go_as))
             | (((with_reducible apply go_ld_agg); rfl; rfl; rfl; rfl))
             | (((with_reducible apply go_cmp); rfl; rfl; rfl; rfl))
             | ((with_reducible (show evOp _ (.call _) _ _ _ _)) ; first | ((with_reducible apply go_fn_int); rfl; (exact c130 g h i hi h0); rfl) | ((with_reducible apply go_fn_fr); rfl; (exact c181 g h i hi); (exact scalInt); rfl))
             | (((with_reducible apply go_bx_agg); rfl; rfl; (exact Nat.le_of_ble_eq_true rfl); rfl; rfl)))
           | ((with_reducible (show evOps _ _ _ _ _ _)); first
             | (with_reducible apply go_nil))
           | ((with_reducible (show ev _ _ _ _)); first
             | (with_reducible apply go_seq)
             | (with_reducible apply go_region)
             | ((with_reducible apply go_cond_f); rfl; rfl)
             | (with_reducible apply go_ret)
             | (with_reducible apply go_skipc))
           | (with_reducible apply go_kseq)
  exact finK_ret (fin_fr2 rfl (by simp) rfl rfl rfl)

/-- The greatest run in each cell. -/
def runsE (g : Ground) (m : Grid) : List Int := (List.range m.levels.length).map (cellRun g m)
theorem runsE_len (g : Ground) (m : Grid) : (runsE g m).length = m.levels.length := by simp [runsE]
theorem runsE_get (g : Ground) (m : Grid) {i : Nat} (h : i < (runsE g m).length) : (runsE g m)[i] = cellRun g m i := by simp [runsE]
def encSlopes (g : Ground) (m : Grid) : List D := [.int .i64 m.x, .int .i64 m.y, .int .i64 m.side, .int .i64 m.cols, .int .i64 m.rows, .sl (m.levels.map encInt), .sl ((runsE g m).map encInt)]

theorem c105 (gd : Ground) (g : Grid) (h : OkGrid g) (h0 : gridE g = 0) (i : Nat) (hi : i < g.levels.length) : Contract Try.prog 105 [.agg (encSlopes gd g), .int .i64 i] (.ret (.fr 1 ((nearL g i g.levels.length).map encInt))) := by
  refine contract_of mix Try.func105 rfl rfl (by rw [Try.ntmps105]; exact Nat.le_of_ble_eq_true rfl) ?_; rw [Try.results105, Try.ntmps105]; simp only [argsE, Nat.reduceAdd]
  repeat' first
           | (with_reducible apply go_op)
           | (with_reducible apply go_next)
           | ((with_reducible (show evOp _ _ _ _ _ _)); first
             | ((with_reducible (show evOp _ (.move _) _ _ _ _)) ; first | ((with_reducible apply go_mv_int); rfl; rfl) | ((with_reducible apply go_mv_os); rfl; rfl) | ((with_reducible apply go_mv_nilsl); rfl; rfl) | ((with_reducible apply go_mv_tup); rfl; rfl))
             | ((with_reducible apply go_as))
             | (((with_reducible apply go_load_own); rfl; rfl; rfl; rfl))
             | (((with_reducible apply go_fieldAddr_own); rfl; rfl; rfl))
             | (((with_reducible apply go_fn_fr2); rfl; (exact c152 g h h0 i hi); (exact scalInt); rfl; rfl))
             | (((with_reducible apply go_extract); rfl; rfl))
             | (((with_reducible apply go_bx_agg); rfl; rfl; (exact Nat.le_of_ble_eq_true rfl); rfl; rfl)))
           | ((with_reducible (show evOps _ _ _ _ _ _)); first
             | (with_reducible apply go_nil))
           | ((with_reducible (show ev _ _ _ _)); first
             | (with_reducible apply go_seq)
             | (with_reducible apply go_region)
             | (with_reducible apply go_ret))
           | (with_reducible apply go_kseq)
  exact end_fr rfl rfl rfl

theorem c106 (g : Ground) (hg : OkG g) (m : Grid) (hm : OkGrid m) (a b : Nat) (ha : a < m.levels.length) (hb : b < m.levels.length) : Contract Try.prog 106 [.agg (encSlopes g m), .int .i64 a, .int .i64 b] (.ret (.int .i64 (allowE g m a b))) := by
  have hl := runsE_len g m
  have ea := runsE_get g m (i := a) (by omega)
  have eb := runsE_get g m (i := b) (by omega)
  have ba := cellRun_bd hg m a
  have bb := cellRun_bd hg m b
  have hs := hm.bds.2.1
  have h3 := hm.small
  refine contract_of mix Try.func106 rfl rfl (by rw [Try.ntmps106]; exact Nat.le_of_ble_eq_true rfl) ?_; rw [Try.results106, Try.ntmps106]; simp only [argsE, Nat.reduceAdd]
  repeat' first
           | (with_reducible apply go_op)
           | (with_reducible apply go_next)
           | ((with_reducible (show evOp _ _ _ _ _ _)); first
             | (((with_reducible apply go_mv_int); rfl; rfl))
             | ((with_reducible apply go_as))
             | ((with_reducible (show evOp _ (.load _ _) _ _ _ _)) ; first | ((with_reducible apply go_load); rfl; rfl; rfl) | ((with_reducible apply go_load_own); rfl; rfl; rfl; rfl))
             | (((with_reducible apply go_fieldAddr_own); rfl; rfl; rfl))
             | (((with_reducible apply go_index_nat); rfl; rfl; (with_reducible rfl); (intro; rfl); rfl; omega; (intro hlt)))
             | ((with_reducible (show evOp _ (.binOp _ _ _ _ _) _ _ _ _)) ; first | ((with_reducible apply go_mul); rfl; rfl; rfl; omega) | ((with_reducible apply go_quo_pos); rfl; rfl; rfl; omega))
             | (((with_reducible apply go_max); rfl; rfl; rfl))
             | (((with_reducible apply go_bx_agg); rfl; rfl; (exact Nat.le_of_ble_eq_true rfl); rfl; rfl)))
           | ((with_reducible (show evOps _ _ _ _ _ _)); first
             | (with_reducible apply go_nil)
             | ((with_reducible apply go_pre); rfl)
             | (with_reducible apply go_pre_nil)
             | ((with_reducible apply go_suf); rfl)
             | (with_reducible apply go_suf_nil))
           | ((with_reducible (show ev _ _ _ _)); first
             | (with_reducible apply go_seq)
             | (with_reducible apply go_region)
             | ((with_reducible apply go_order); kernel_rfl; rfl)
             | (with_reducible apply go_ret))
           | (with_reducible apply go_kseq)
           | (with_reducible apply go_ksuf)
           | ((with_reducible apply end_int); rfl)
  all_goals (simp only [allowE, ea, eb])

theorem centre_ok {g : Grid} (h : OkGrid g) {i : Nat} (hi : i < g.levels.length) : ptOK (centreE g i) = true := by
  have hb := h.bds
  have hc := cell_bds h hi
  have he := h.ends
  have h1 := Int.mul_le_mul_of_nonneg_right (show (i : Int) % g.cols + 1 ≤ g.cols by omega) (show 0 ≤ g.side by omega)
  have h2 := Int.mul_le_mul_of_nonneg_right (show (i : Int) / g.cols + 1 ≤ g.rows by omega) (show 0 ≤ g.side by omega)
  rw [Int.add_mul, Int.one_mul] at h1 h2
  refine decide_eq_true ?_
  show (-1000000 ≤ g.x + (i : Int) % g.cols * g.side + g.side / 2 ∧ g.x + (i : Int) % g.cols * g.side + g.side / 2 ≤ 1000000) ∧ (-1000000 ≤ g.y + (i : Int) / g.cols * g.side + g.side / 2 ∧ g.y + (i : Int) / g.cols * g.side + g.side / 2 ≤ 1000000)
  omega

theorem c62 (g : Ground) (hg : OkG g) (hs : g.soils.length < 1000000000000) (m : Grid) (hm : OkGrid m) (a b : Nat) (ha : a < m.levels.length) (hb : b < m.levels.length) : Contract Try.prog 62 [.agg (encGround g), .agg (encGrid m), .int .i64 a, .int .i64 b] (.ret (.int .i64 (allowE g m a b))) := by
  have ba := cellRun_bd hg m a
  have bb := cellRun_bd hg m b
  have hsd := hm.bds.2.1
  have pa := centre_ok hm ha
  have pb := centre_ok hm hb
  have h1 : Contract Try.prog 111 [.agg (encGround g), .agg (encPt (centreE m a))] (.ret (.int .i64 (cellRun g m a))) := c111 g hg hs _ pa
  have h2 : Contract Try.prog 111 [.agg (encGround g), .agg (encPt (centreE m b))] (.ret (.int .i64 (cellRun g m b))) := c111 g hg hs _ pb
  refine contract_of mix Try.func62 rfl rfl (by rw [Try.ntmps62]; exact Nat.le_of_ble_eq_true rfl) ?_; rw [Try.results62, Try.ntmps62]; simp only [argsE, Nat.reduceAdd]
  repeat' first
           | (with_reducible apply go_op)
           | (with_reducible apply go_next)
           | ((with_reducible (show evOp _ _ _ _ _ _)); first
             | (((with_reducible apply go_mv_int); rfl; rfl))
             | ((with_reducible apply go_as))
             | ((with_reducible (show evOp _ (.load _ _) _ _ _ _)) ; first | ((with_reducible apply go_ld_agg); rfl; rfl; rfl; rfl) | ((with_reducible apply go_load_own); rfl; rfl; rfl; rfl))
             | (((with_reducible apply go_fieldAddr_own); rfl; rfl; rfl))
             | ((with_reducible (show evOp _ (.binOp _ _ _ _ _) _ _ _ _)) ; first | ((with_reducible apply go_mul); rfl; rfl; rfl; omega) | ((with_reducible apply go_quo_pos); rfl; rfl; rfl; omega))
             | ((with_reducible (show evOp _ (.call _) _ _ _ _)) ; first | ((with_reducible apply go_max); rfl; rfl; rfl) | ((with_reducible apply go_fn_plain); rfl; (exact c103 m hm a ha); rfl; (exact Nat.le_of_ble_eq_true rfl); rfl) | ((with_reducible apply go_fn_plain); rfl; (exact c103 m hm b hb); rfl; (exact Nat.le_of_ble_eq_true rfl); rfl) | ((with_reducible apply go_fn_int); rfl; (exact h1); rfl) | ((with_reducible apply go_fn_int); rfl; (exact h2); rfl))
             | (((with_reducible apply go_bx_agg); rfl; rfl; (exact Nat.le_of_ble_eq_true rfl); rfl; rfl)))
           | ((with_reducible (show evOps _ _ _ _ _ _)); first
             | (with_reducible apply go_nil)
             | ((with_reducible apply go_pre); rfl)
             | (with_reducible apply go_pre_nil)
             | ((with_reducible apply go_suf); rfl)
             | (with_reducible apply go_suf_nil))
           | ((with_reducible (show ev _ _ _ _)); first
             | (with_reducible apply go_seq)
             | (with_reducible apply go_region)
             | ((with_reducible apply go_order); kernel_rfl; rfl)
             | (with_reducible apply go_ret))
           | (with_reducible apply go_kseq)
           | (with_reducible apply go_ksuf)
           | ((with_reducible apply end_int); rfl)
  all_goals rfl
end Go.Pv.Soil

open Go Go.Proofs Go.Pv
set_option maxHeartbeats 2000000
set_option maxRecDepth 100000
set_option linter.unusedSimpArgs false
set_option linter.unusedVariables false
namespace Go.Pv.Soil

theorem c153 (l : List Int) (hl : l.length < 1000000000000) (v : Int) : Contract Try.prog 153 [.sl (l.map encInt), .int .i64 v] (.ret (.int .i64 (idxOf (fun x => decide (v = x)) l))) := by
  refine contract_of mix Try.func153 rfl rfl (by rw [Try.ntmps153]; exact Nat.le_of_ble_eq_true rfl) ?_; rw [Try.results153, Try.ntmps153]; simp only [argsE, Nat.reduceAdd]
  repeat' first
           | (with_reducible apply go_op)
           | (with_reducible apply go_next)
           | ((with_reducible (show evOp _ _ _ _ _ _)); first
             | ((with_reducible (show evOp _ (.move _) _ _ _ _)) ; first | ((with_reducible apply go_mv_int); rfl; rfl) | ((with_reducible apply go_mv_sl); rfl; rfl))
             | ((with_reducible apply go_as))
             | (((with_reducible apply go_len); rfl; rfl)))
           | ((with_reducible (show evOps _ _ _ _ _ _)); first
             | (with_reducible apply go_nil))
           | ((with_reducible (show ev _ _ _ _)); first
             | (with_reducible apply go_seq)
             | (with_reducible apply go_region)
             | (with_reducible apply go_block))
           | (with_reducible apply go_kseq)
  refine go_count (l.length) (fun i => ⟨[(8, .int .i64 i), (7, .int .i64 l.length), (0, .sl (l.map encInt)), (1, .int .i64 v)], [], 0, 19⟩) (fun i => ∀ j (hj : j < i) (hj' : j < l.length), decide (v = l[j]) = false) (entails_eq (k := 0) (ns := []) (ks := [8, 7, 0, 1]) [] rfl (by simp) rfl) (by omega) ?_
  intro i hi hC
  repeat' first
           | (with_reducible apply go_op)
           | (with_reducible apply go_next)
           | ((with_reducible (show evOp _ _ _ _ _ _)); first
             | ((with_reducible (show evOp _ (.move _) _ _ _ _)) ; first | ((with_reducible apply go_mv_int); rfl; rfl) | ((with_reducible apply go_mv_sl); rfl; rfl))
             | ((with_reducible apply go_as))
             | (((with_reducible apply go_load); rfl; rfl; rfl))
             | (((with_reducible apply go_index_nat); rfl; rfl; (with_reducible rfl); (intro; rfl); rfl; omega; (intro hlt)))
             | ((with_reducible (show evOp _ (.binOp _ _ _ _ _) _ _ _ _)) ; first | ((with_reducible apply go_cmp); rfl; rfl; rfl; rfl) | ((with_reducible apply go_add); rfl; rfl; rfl; omega)))
           | ((with_reducible (show evOps _ _ _ _ _ _)); first
             | (with_reducible apply go_nil))
           | ((with_reducible (show ev _ _ _ _)); first
             | (with_reducible apply go_seq)
             | (with_reducible apply go_region)
             | (((with_reducible apply go_cond); rfl) <;> (intro h; simp only [h]; try simp only [decide_eq_true_eq, decide_eq_false_iff_not, Bool.not_eq_true', Bool.not_eq_false', Bool.not_true, Bool.not_false] at h; try exact absurd trivial h))
             | (with_reducible apply go_ret)
             | (with_reducible apply go_skipc)
             | (with_reducible apply go_block)
             | (with_reducible apply go_exit))
           | (with_reducible apply go_kseq)
           | (with_reducible apply go_kseq_ret)
           | (with_reducible apply go_kblock)
           | (with_reducible apply go_kblock_ret)
           | (with_reducible apply go_kblock_exit)
           | (with_reducible apply go_kseq_exit)
           | ((with_reducible apply end_int); rfl)
  · have h2 : i < l.length := by omega
    exact (idxOf_some (p := fun x => decide (v = x)) h2 (by simp; first | exact h | exact h.symm) fun j hj => hC j hj (by omega)).symm
  · have h2 : i < l.length := by omega
    refine ⟨by omega, fun j hj hj' => ?_, entails_eq (k := 0) (ns := []) (ks := [8, 7, 0, 1]) [] rfl (by simp) rfl⟩
    rcases Nat.lt_succ_iff_lt_or_eq.1 hj with h' | rfl
    · exact hC j h' hj'
    · simp; first | exact h | exact fun e => h e.symm
  · refine (idxOf_none fun x hx => ?_).symm
    obtain ⟨j, hj, rfl⟩ := List.mem_iff_getElem.1 hx
    exact hC j (by omega) hj

theorem c109 (l : List Int) (hl : l.length < 1000000000000) (v : Int) : Contract Try.prog 109 [.sl (l.map encInt), .int .i64 v] (.ret (.bool (l.any fun x => decide (v = x)))) := by
  refine contract_of mix Try.func109 rfl rfl (by rw [Try.ntmps109]; exact Nat.le_of_ble_eq_true rfl) ?_; rw [Try.results109, Try.ntmps109]; simp only [argsE, Nat.reduceAdd]
  repeat' first
           | (with_reducible apply go_op)
           | (with_reducible apply go_next)
           | ((with_reducible (show evOp _ _ _ _ _ _)); first
             | ((with_reducible (show evOp _ (.move _) _ _ _ _)) ; first | ((with_reducible apply go_mv_int); rfl; rfl) | ((with_reducible apply go_mv_bool); rfl; rfl) | ((with_reducible apply go_mv_sl); rfl; rfl))
             | ((with_reducible apply go_as))
             | (((with_reducible apply go_cmp); rfl; rfl; rfl; rfl))
             | (((with_reducible apply go_fn_int); rfl; (exact c153 l hl v); rfl)))
           | ((with_reducible (show evOps _ _ _ _ _ _)); first
             | (with_reducible apply go_nil))
           | ((with_reducible (show ev _ _ _ _)); first
             | (with_reducible apply go_seq)
             | (with_reducible apply go_region)
             | (with_reducible apply go_ret))
           | (with_reducible apply go_kseq)
           | ((with_reducible apply end_bool); rfl)
  exact idxOf_ge

def zeroG : Grid := ⟨0, 0, 0, 0, 0, []⟩
theorem c29 (g : Grid) (hl : g.levels.length < 1000000000000) : Contract Try.prog 29 [.agg (encGrid g)] (.ret (.bool (sameE g zeroG))) := by
  have h32 : Contract Try.prog 32 [.agg (encGrid g), .agg [.int .i64 0, .int .i64 0, .int .i64 0, .int .i64 0, .int .i64 0, .sl []]] (.ret (.bool (sameE g zeroG))) := c32 g zeroG hl
  refine contract_of mix Try.func29 rfl rfl (by rw [Try.ntmps29]; exact Nat.le_of_ble_eq_true rfl) ?_; rw [Try.results29, Try.ntmps29]; simp only [argsE, Nat.reduceAdd]
  repeat' first
           | (with_reducible apply go_op)
           | (with_reducible apply go_next)
           | ((with_reducible (show evOp _ _ _ _ _ _)); first
             | (((with_reducible apply go_mv_bool); rfl; rfl))
             | ((with_reducible apply go_as))
             | (((with_reducible apply go_ld_agg); rfl; rfl; rfl; rfl))
             | (((with_reducible apply go_fn_bool); rfl; (exact h32); rfl))
             | (((with_reducible apply go_build); rfl; rfl))
             | (((with_reducible apply go_bx_agg); rfl; rfl; (exact Nat.le_of_ble_eq_true rfl); rfl; rfl)))
           | ((with_reducible (show evOps _ _ _ _ _ _)); first
             | (with_reducible apply go_nil))
           | ((with_reducible (show ev _ _ _ _)); first
             | (with_reducible apply go_seq)
             | (with_reducible apply go_region)
             | (with_reducible apply go_ret))
           | (with_reducible apply go_kseq)
           | ((with_reducible apply end_bool); rfl)
           | (with_reducible rfl)
end Go.Pv.Soil

open Go Go.Proofs Go.Pv
set_option maxHeartbeats 2000000
set_option maxRecDepth 100000
set_option linter.unusedSimpArgs false
set_option linter.unusedVariables false
namespace Go.Pv.Soil

def slopesSt (g : Ground) (m : Grid) : Nat → St
  | 0 => ⟨[(12, .int .i64 0), (11, .int .i64 m.levels.length), (5, .op 3 0 0), (4, .op 2 0 0), (3, .op 1 0 0), (2, .op 0 0 0)],
      [(0, ⟨2, true, [encGround g]⟩), (1, ⟨6, true, [encGrid m]⟩), (2, ⟨7, false, [[.int .i64 0, .int .i64 0, .int .i64 0, .int .i64 0, .int .i64 0, .nilsl, .nilsl]]⟩), (3, ⟨7, false, [encGrid m ++ [.nilsl]]⟩)], 32, 29⟩
  | i + 1 => ⟨[(12, .int .i64 ((i + 1 : Nat) : Int)), (11, .int .i64 m.levels.length), (5, .op 3 0 0), (4, .op 2 0 0), (3, .op 1 0 0), (2, .op 0 0 0)],
      [(0, ⟨2, true, [encGround g]⟩), (1, ⟨6, true, [encGrid m]⟩), (2, ⟨7, false, [[.int .i64 0, .int .i64 0, .int .i64 0, .int .i64 0, .int .i64 0, .nilsl, .nilsl]]⟩), (3, ⟨7, false, [encGrid m ++ [.os 4 0 (i + 1)]]⟩), (4, ⟨1, true, ((List.range (i + 1)).map (cellRun g m)).map encInt⟩)], 32, 29⟩

theorem c94 (g : Ground) (hg : OkG g) (hs : g.soils.length < 1000000000000) (m : Grid) (hm : OkGrid m) (h0 : gridE m = 0) : Contract Try.prog 94 [.agg (encGround g), .agg (encGrid m)] (.ret (.agg (encGrid m ++ [.fr 1 ((runsE g m).map encInt)]))) := by
  have hsm := hm.small
  have hbl : g.borings.length < 1000000000000 := by have := hg.n; omega
  have hlen := hm.len
  have hcr := mul_bd hm.bds.2.2.1 hm.bds.2.2.2
  refine contract_of mix Try.func94 rfl rfl (by rw [Try.ntmps94]; exact Nat.le_of_ble_eq_true rfl) ?_; rw [Try.results94, Try.ntmps94]; simp only [argsE, Nat.reduceAdd]
  repeat' first
           | (with_reducible apply go_op)
           | (with_reducible apply go_next)
           | ((with_reducible (show evOp _ _ _ _ _ _)); first
             | (((with_reducible apply go_mv_int); rfl; rfl))
             | ((with_reducible (show evOp _ (.load _ _) _ _ _ _)) ; first | ((with_reducible apply go_ld_agg); rfl; rfl; rfl; rfl) | ((with_reducible apply go_load_own); rfl; rfl; rfl; rfl))
             | (((with_reducible apply go_fieldAddr_own); rfl; rfl; rfl))
             | (((with_reducible apply go_len); rfl; rfl))
             | (((with_reducible apply go_st_agg); rfl; rfl; rfl; rfl; rfl; rfl; rfl))
             | (((with_reducible apply go_build); rfl; rfl))
             | (((with_reducible apply go_bx_agg); rfl; rfl; (exact Nat.le_of_ble_eq_true rfl); rfl; rfl))
             | (((with_reducible apply go_alloc); rfl; rfl; rfl)))
           | ((with_reducible (show evOps _ _ _ _ _ _)); first
             | (with_reducible apply go_nil))
           | ((with_reducible (show ev _ _ _ _)); first
             | (with_reducible apply go_seq)
             | (with_reducible apply go_region)
             | (with_reducible apply go_block))
           | (with_reducible apply go_kseq)
  refine go_count m.levels.length (slopesSt g m) (fun _ => True) (entails_eq (nx := 32) (k := 1) (ns := []) (ks := [12, 11, 5, 4, 3, 2]) [(0, 0), (32, 1), (64, 2), (160, 3)] rfl (by simp) (by kernel_rfl)) trivial ?_
  intro i hi _
  match i with
  | 0 =>
    have hi' : 0 < m.levels.length := by omega
    have hc := centre_ok hm hi'
    simp only [slopesSt]
    repeat' first
           | (with_reducible apply go_op)
           | (with_reducible apply go_next)
           | ((with_reducible (show evOp _ _ _ _ _ _)); first
             | (((with_reducible apply go_mv_int); rfl; rfl))
             | ((with_reducible apply go_as))
             | ((with_reducible (show evOp _ (.load _ _) _ _ _ _)) ; first | ((with_reducible apply go_ld_agg); rfl; rfl; rfl; rfl) | ((with_reducible apply go_load_own); rfl; rfl; rfl; rfl))
             | (((with_reducible apply go_fieldAddr_own); rfl; rfl; rfl))
             | (((with_reducible apply go_cmp); rfl; rfl; rfl; rfl))
             | ((with_reducible (show evOp _ (.call _) _ _ _ _)) ; first | ((with_reducible apply go_fn_plain); rfl; (exact c101 m hm 0 hi' h0); rfl; (exact Nat.le_of_ble_eq_true rfl); rfl) | ((with_reducible apply go_fn_int); rfl; (exact c98 g hbl _); rfl) | ((with_reducible apply go_fn_int); rfl; (exact c146 g hg hs _ (near_lt hg.n.1)); rfl))
             | (((with_reducible apply go_st_agg); rfl; rfl; rfl; rfl; rfl; rfl; rfl))
             | (((with_reducible apply go_bs1_int); rfl; rfl; rfl)))
           | ((with_reducible (show evOps _ _ _ _ _ _)); first
             | (with_reducible apply go_nil)
             | ((with_reducible apply go_pre); rfl)
             | ((with_reducible apply go_pre_stop); rfl)
             | ((with_reducible apply go_suf); rfl)
             | ((with_reducible apply go_suf_stop); rfl))
           | ((with_reducible (show ev _ _ _ _)); first
             | (with_reducible apply go_seq)
             | (with_reducible apply go_region)
             | (((with_reducible apply go_cond); rfl) <;> (intro h; simp only [h]; try simp only [decide_eq_true_eq, decide_eq_false_iff_not, Bool.not_eq_true', Bool.not_eq_false', Bool.not_true, Bool.not_false] at h; try exact absurd trivial h))
             | ((with_reducible apply go_order); kernel_rfl; rfl)
             | (with_reducible apply go_ret)
             | (with_reducible apply go_skipc)
             | (with_reducible apply go_block)
             | (with_reducible apply go_exit))
           | (with_reducible apply go_kseq)
           | (with_reducible apply go_ksuf)
           | (with_reducible apply go_kblock_exit)
           | (with_reducible apply go_kseq_exit)
    · refine go_append_new (go_app_nil (f := encInt) scalInt rfl rfl rfl rfl (by kernel_rfl) (by kernel_rfl)) rfl ?_
      repeat' first
           | (with_reducible apply go_op)
           | (with_reducible apply go_next)
           | ((with_reducible (show evOp _ _ _ _ _ _)); first
             | (((with_reducible apply go_mv_int); rfl; rfl))
             | (((with_reducible apply go_fieldAddr_own); rfl; rfl; rfl))
             | (((with_reducible apply go_add); rfl; rfl; rfl; omega))
             | (((with_reducible apply go_store); rfl; rfl; rfl; rfl; rfl; rfl; (exact Nat.le_of_ble_eq_true rfl); (first | exact Nat.le_of_ble_eq_true rfl | omega); rfl; rfl)))
           | ((with_reducible (show evOps _ _ _ _ _ _)); first
             | (with_reducible apply go_nil))
           | ((with_reducible (show ev _ _ _ _)); first
             | (with_reducible apply go_region))
           | (with_reducible apply go_kseq)
           | (with_reducible apply go_kblock)
      exact ⟨hi', trivial, entails_eq (nx := 32) (k := 1) (ns := []) (ks := [12, 11, 5, 4, 3, 2]) [(0, 0), (1, 1), (2, 2), (3, 3), (448, 4)] rfl (by simp) (by kernel_rfl)⟩
    · exact absurd hi' (by omega)
  | i + 1 =>
    by_cases hlt : i + 1 < m.levels.length
    · have hc := centre_ok hm hlt
      simp only [slopesSt]
      repeat' first
           | (with_reducible apply go_op)
           | (with_reducible apply go_next)
           | ((with_reducible (show evOp _ _ _ _ _ _)); first
             | (((with_reducible apply go_mv_int); rfl; rfl))
             | ((with_reducible apply go_as))
             | ((with_reducible (show evOp _ (.load _ _) _ _ _ _)) ; first | ((with_reducible apply go_ld_agg); rfl; rfl; rfl; rfl) | ((with_reducible apply go_load_own); rfl; rfl; rfl; rfl))
             | (((with_reducible apply go_fieldAddr_own); rfl; rfl; rfl))
             | (((with_reducible apply go_cmp); rfl; rfl; rfl; rfl))
             | ((with_reducible (show evOp _ (.call _) _ _ _ _)) ; first | ((with_reducible apply go_fn_plain); rfl; (exact c101 m hm (i + 1) hlt h0); rfl; (exact Nat.le_of_ble_eq_true rfl); rfl) | ((with_reducible apply go_fn_int); rfl; (exact c98 g hbl _); rfl) | ((with_reducible apply go_fn_int); rfl; (exact c146 g hg hs _ (near_lt hg.n.1)); rfl))
             | (((with_reducible apply go_st_agg); rfl; rfl; rfl; rfl; rfl; rfl; rfl))
             | (((with_reducible apply go_bs1_int); rfl; rfl; rfl)))
           | ((with_reducible (show evOps _ _ _ _ _ _)); first
             | (with_reducible apply go_nil)
             | ((with_reducible apply go_pre); rfl)
             | ((with_reducible apply go_pre_stop); rfl)
             | ((with_reducible apply go_suf); rfl)
             | ((with_reducible apply go_suf_stop); rfl))
           | ((with_reducible (show ev _ _ _ _)); first
             | (with_reducible apply go_seq)
             | (with_reducible apply go_region)
             | (((with_reducible apply go_cond); rfl) <;> (intro h; simp only [h]; try simp only [decide_eq_true_eq, decide_eq_false_iff_not, Bool.not_eq_true', Bool.not_eq_false', Bool.not_true, Bool.not_false] at h; try exact absurd trivial h))
             | ((with_reducible apply go_order); kernel_rfl; rfl)
             | (with_reducible apply go_ret)
             | (with_reducible apply go_skipc)
             | (with_reducible apply go_block)
             | (with_reducible apply go_exit))
           | (with_reducible apply go_kseq)
           | (with_reducible apply go_ksuf)
           | (with_reducible apply go_kblock_exit)
           | (with_reducible apply go_kseq_exit)
      · refine go_app_map (f := encInt) (l := (List.range (i + 1)).map (cellRun g m)) scalInt rfl rfl rfl (by simp) rfl rfl (by kernel_rfl) (by kernel_rfl) (by omega) rfl ?_
        repeat' first
           | (with_reducible apply go_op)
           | (with_reducible apply go_next)
           | ((with_reducible (show evOp _ _ _ _ _ _)); first
             | (((with_reducible apply go_mv_int); rfl; rfl))
             | (((with_reducible apply go_fieldAddr_own); rfl; rfl; rfl))
             | (((with_reducible apply go_add); rfl; rfl; rfl; omega))
             | (((with_reducible apply go_store); rfl; rfl; rfl; rfl; rfl; rfl; (exact Nat.le_of_ble_eq_true rfl); (first | exact Nat.le_of_ble_eq_true rfl | omega); rfl; rfl)))
           | ((with_reducible (show evOps _ _ _ _ _ _)); first
             | (with_reducible apply go_nil))
           | ((with_reducible (show ev _ _ _ _)); first
             | (with_reducible apply go_region))
           | (with_reducible apply go_kseq)
           | (with_reducible apply go_kblock)
        have e : (List.range (i + 1)).map (cellRun g m) ++ [runE g (nearE g (centreE m (i + 1)))] = (List.range (i + 1 + 1)).map (cellRun g m) := by
          rw [List.range_succ (n := i + 1), List.map_append]; rfl
        rw [e]
        exact ⟨hlt, trivial, entails_eq (nx := 32) (k := 1) (ns := []) (ks := [12, 11, 5, 4, 3, 2]) [(0, 0), (1, 1), (2, 2), (3, 3), (4, 4)] rfl (by simp) (by kernel_rfl)⟩
      · exact absurd hlt (by omega)
    · simp only [slopesSt]
      repeat' first
           | (with_reducible apply go_op)
           | (with_reducible apply go_next)
           | ((with_reducible (show evOp _ _ _ _ _ _)); first
             | (((with_reducible apply go_mv_int); rfl; rfl))
             | ((with_reducible apply go_as))
             | ((with_reducible (show evOp _ (.load _ _) _ _ _ _)) ; first | ((with_reducible apply go_ld_agg); rfl; rfl; rfl; rfl) | ((with_reducible apply go_load_own); rfl; rfl; rfl; rfl))
             | (((with_reducible apply go_fieldAddr_own); rfl; rfl; rfl))
             | (((with_reducible apply go_cmp); rfl; rfl; rfl; rfl))
             | (((with_reducible apply go_st_agg); rfl; rfl; rfl; rfl; rfl; rfl; rfl)))
           | ((with_reducible (show evOps _ _ _ _ _ _)); first
             | (with_reducible apply go_nil)
             | ((with_reducible apply go_pre); rfl))
           | ((with_reducible (show ev _ _ _ _)); first
             | (with_reducible apply go_seq)
             | (with_reducible apply go_region)
             | (((with_reducible apply go_cond); rfl) <;> (intro h; simp only [h]; try simp only [decide_eq_true_eq, decide_eq_false_iff_not, Bool.not_eq_true', Bool.not_eq_false', Bool.not_true, Bool.not_false] at h; try exact absurd trivial h))
             | ((with_reducible apply go_order); kernel_rfl; rfl)
             | (with_reducible apply go_ret)
             | (with_reducible apply go_skipc)
             | (with_reducible apply go_block)
             | (with_reducible apply go_exit))
           | (with_reducible apply go_kseq)
           | (with_reducible apply go_kblock_exit)
           | (with_reducible apply go_kseq_exit)
      · exact absurd hlt (by omega)
      · have e : i + 1 = m.levels.length := by omega
        have er : runsE g m = (List.range (i + 1)).map (cellRun g m) := by rw [runsE, ← e]
        rw [er]
        exact finK_ret (fin_agf (cs := encGrid m) (len := i + 1) rfl rfl (by simp) rfl)
end Go.Pv.Soil

open Go Go.Proofs Go.Pv
set_option maxHeartbeats 2000000
set_option maxRecDepth 100000
set_option linter.unusedSimpArgs false
set_option linter.unusedVariables false
namespace Go.Pv.Soil

theorem c104L (g : Grid) (x : Int) (hx : 0 ≤ x ∧ x < g.levels.length) (hl : g.levels.length < 1000000000000) : Contract Try.prog 104 [.agg (encGrid g), .int .i64 x] (.ret (.bool (!decide (lv g.levels x.toNat = 30000)))) := by
  obtain ⟨k, rfl⟩ := Int.eq_ofNat_of_zero_le hx.1
  have := c104 g k (by omega)
  rw [← lv_get] at this
  exact this
theorem c41L (g : Grid) (x : Int) (hx : 0 ≤ x ∧ x < g.levels.length) (hl : g.levels.length < 1000000000000) : Contract Try.prog 41 [.agg (encGrid g), .int .i64 x] (.ret (.bool (!decide (lv g.levels x.toNat = 30000)))) := by
  obtain ⟨k, rfl⟩ := Int.eq_ofNat_of_zero_le hx.1
  have := c41 g hl k (by omega)
  rw [← lv_get] at this
  exact this
theorem c106L (g : Ground) (hg : OkG g) (m : Grid) (hm : OkGrid m) (x y : Int) (hx : 0 ≤ x ∧ x < m.levels.length) (hy : 0 ≤ y ∧ y < m.levels.length) : Contract Try.prog 106 [.agg (encSlopes g m), .int .i64 x, .int .i64 y] (.ret (.int .i64 (allowE g m x.toNat y.toNat))) := by
  obtain ⟨k, rfl⟩ := Int.eq_ofNat_of_zero_le hx.1
  obtain ⟨j, rfl⟩ := Int.eq_ofNat_of_zero_le hy.1
  exact c106 g hg m hm k j (by omega) (by omega)
theorem c62L (g : Ground) (hg : OkG g) (hs : g.soils.length < 1000000000000) (m : Grid) (hm : OkGrid m) (x y : Int) (hx : 0 ≤ x ∧ x < m.levels.length) (hy : 0 ≤ y ∧ y < m.levels.length) : Contract Try.prog 62 [.agg (encGround g), .agg (encGrid m), .int .i64 x, .int .i64 y] (.ret (.int .i64 (allowE g m x.toNat y.toNat))) := by
  obtain ⟨k, rfl⟩ := Int.eq_ofNat_of_zero_le hx.1
  obtain ⟨j, rfl⟩ := Int.eq_ofNat_of_zero_le hy.1
  exact c62 g hg hs m hm k j (by omega) (by omega)

/-- The pairs of the first cells, and of the next one with its first neighbours. -/
def steepAcc (g : Ground) (a : Grid) (N : List Int) (i : Nat) : Nat → List Steep
  | 0 => steepL g a i
  | j + 1 => steepAcc g a N i j ++ match N[j]? with
    | some b => steepOf g a i b
    | none => []
theorem steepAcc_succ (g : Ground) (a : Grid) {N : List Int} (i : Nat) {j : Nat} (hj : j < N.length) : steepAcc g a N i (j + 1) = steepAcc g a N i j ++ steepOf g a i N[j] := by
  simp only [steepAcc, List.getElem?_eq_getElem hj]
theorem steepAcc_row (g : Ground) (a : Grid) (N : List Int) (i : Nat) : ∀ j, j ≤ N.length → steepAcc g a N i j = steepL g a i ++ steepRow g a i (N.take j)
  | 0, _ => by simp [steepAcc, steepRow]
  | j + 1, h => by
    rw [steepAcc_succ g a i (by omega), steepAcc_row g a N i j (by omega), steepRow_succ g a i (by omega), List.append_assoc]
theorem steepAcc_end (g : Ground) (a : Grid) (i : Nat) : steepAcc g a (nearL a i a.levels.length) i (nearL a i a.levels.length).length = steepL g a (i + 1) := by
  rw [steepAcc_row _ _ _ _ _ (Nat.le_refl _), List.take_length, steepL_succ]
theorem steepAcc_len (g : Ground) (a : Grid) (N : List Int) (i : Nat) : ∀ j, j ≤ N.length → (steepAcc g a N i j).length ≤ i * a.levels.length + j
  | 0, _ => by have := steepL_len g a i; simpa [steepAcc] using this
  | j + 1, h => by
    have h1 := steepAcc_len g a N i j (by omega)
    have h2 := steepOf_len g a i (N[j]'(by omega))
    rw [steepAcc_succ g a i (by omega), List.length_append]
    omega

theorem c95 (g : Ground) (hg : OkG g) (m : Grid) (hm : OkGrid m) (h0 : gridE m = 0) (a : Grid) (ha : OkGrid a) (hla : a.levels.length = m.levels.length) (hnear : ∀ i n, nearL m i n = nearL a i n) (hal : ∀ i k, allowE g m i k = allowE g a i k) :
    Contract Try.prog 95 [.agg (encSlopes g m), .agg (encGrid a)] (.ret (.fr 3 ((steepL g a a.levels.length).map encSteep))) := by
  have hs := ha.small
  refine contract_of mix Try.func95 rfl rfl (by rw [Try.ntmps95]; exact Nat.le_of_ble_eq_true rfl) ?_; rw [Try.results95, Try.ntmps95]; simp only [argsE, Nat.reduceAdd]
  repeat' first
           | (with_reducible apply go_op)
           | (with_reducible apply go_next)
           | ((with_reducible (show evOp _ _ _ _ _ _)); first
             | ((with_reducible (show evOp _ (.move _) _ _ _ _)) ; first | ((with_reducible apply go_mv_int); rfl; rfl) | ((with_reducible apply go_mv_nilsl); rfl; rfl))
             | ((with_reducible apply go_as))
             | (((with_reducible apply go_load_own); rfl; rfl; rfl; rfl))
             | (((with_reducible apply go_fieldAddr_own); rfl; rfl; rfl))
             | (((with_reducible apply go_len); rfl; rfl))
             | (((with_reducible apply go_bx_agg); rfl; rfl; (exact Nat.le_of_ble_eq_true rfl); rfl; rfl)))
           | ((with_reducible (show evOps _ _ _ _ _ _)); first
             | (with_reducible apply go_nil))
           | ((with_reducible (show ev _ _ _ _)); first
             | (with_reducible apply go_seq)
             | (with_reducible apply go_region)
             | (with_reducible apply go_block))
           | (with_reducible apply go_kseq)
  refine go_count a.levels.length (fun i => ⟨[(5, .os 2 0 (steepL g a i).length), (15, .int .i64 i), (14, .int .i64 a.levels.length), (2, .op 0 0 0), (3, .op 1 0 0)], [(2, ⟨3, true, (steepL g a i).map encSteep⟩), (0, ⟨7, true, [encSlopes g m]⟩), (1, ⟨6, true, [encGrid a]⟩)], 32, 84⟩) (fun _ => True)
    (entails_eq (nx := 32) (k := 3) (ns := [(5, 2)]) (ks := [15, 14, 2, 3]) [(0, 0), (32, 1)] rfl (by simp; rfl) rfl) trivial ?_
  intro i hi _
  by_cases hlt : i < a.levels.length
  · have c105i := c105 g m hm h0 i (by omega)
    rw [hnear, ← hla] at c105i
    repeat' first
           | (with_reducible apply go_op)
           | (with_reducible apply go_next)
           | ((with_reducible (show evOp _ _ _ _ _ _)); first
             | ((with_reducible (show evOp _ (.move _) _ _ _ _)) ; first | ((with_reducible apply go_mv_int); rfl; rfl) | ((with_reducible apply go_mv_os); rfl; rfl))
             | ((with_reducible apply go_as))
             | (((with_reducible apply go_ld_agg); rfl; rfl; rfl; rfl))
             | (((with_reducible apply go_cmp); rfl; rfl; rfl; rfl))
             | ((with_reducible (show evOp _ (.call _) _ _ _ _)) ; first | ((with_reducible apply go_len_own); rfl; rfl; rfl) | ((with_reducible apply go_fn_fr); rfl; (exact c105i); (exact scalInt); rfl)))
           | ((with_reducible (show evOps _ _ _ _ _ _)); first
             | (with_reducible apply go_nil))
           | ((with_reducible (show ev _ _ _ _)); first
             | (with_reducible apply go_seq)
             | (with_reducible apply go_region)
             | (((with_reducible apply go_cond); rfl) <;> (intro h; simp only [h]; try simp only [decide_eq_true_eq, decide_eq_false_iff_not, Bool.not_eq_true', Bool.not_eq_false', Bool.not_true, Bool.not_false] at h; try exact absurd trivial h))
             | (with_reducible apply go_ret)
             | (with_reducible apply go_skipc)
             | (with_reducible apply go_block)
             | (with_reducible apply go_exit))
           | (with_reducible apply go_kseq)
           | (with_reducible apply go_kblock_exit)
           | (with_reducible apply go_kseq_exit)
    · have hNm : ∀ j (hj : j < (nearL a i a.levels.length).length), 0 ≤ (nearL a i a.levels.length)[j] ∧ (nearL a i a.levels.length)[j] < a.levels.length := fun j hj => by
        obtain ⟨k, h1, h2, _⟩ := (nearL_mem a i _ _).1 (List.getElem_mem hj)
        omega
      have hNl := nearL_len a i a.levels.length
      have hend := steepAcc_end g a i
      have hAl := steepAcc_len g a (nearL a i a.levels.length) i
      have hsucc := fun j hj => steepAcc_succ g a (N := nearL a i a.levels.length) i (j := j) hj
      have hmul := Nat.mul_le_mul (show i ≤ 1024 by omega) hs
      generalize nearL a i a.levels.length = N at *
      refine go_count N.length (fun j => ⟨[(5, .os 2 0 (steepAcc g a N i j).length), (22, .int .i64 j), (21, .int .i64 N.length), (20, .os 3 0 N.length), (6, .int .i64 i), (15, .int .i64 i), (14, .int .i64 a.levels.length), (2, .op 0 0 0), (3, .op 1 0 0)], [(2, ⟨3, true, (steepAcc g a N i j).map encSteep⟩), (3, ⟨1, true, N.map encInt⟩), (0, ⟨7, true, [encSlopes g m]⟩), (1, ⟨6, true, [encGrid a]⟩)], 32, 84⟩) (fun _ => True)
        (entails_eq (nx := 32) (k := 1) (ns := []) (ks := [5, 22, 21, 20, 6, 15, 14, 2, 3]) [(2, 2), (192, 3), (0, 0), (1, 1)] rfl (by simp) (by kernel_rfl)) trivial ?_
      intro j hj _
      by_cases hlj : j < N.length
      · have hb := hNm j hlj
        have hl1 : (steepAcc g a N i j).length ≤ 1000000000 := by have := hAl j hj; omega
        have hnil : steepOf g a i N[j] = [] → steepAcc g a N i (j + 1) = steepAcc g a N i j := fun h => by rw [hsucc j hlj, h, List.append_nil]
        have hone : ∀ s, steepOf g a i N[j] = [s] → steepAcc g a N i (j + 1) = steepAcc g a N i j ++ [s] := fun s h => by rw [hsucc j hlj, h]
        have e1 := lv_get hlt
        have e2 : lv a.levels N[j].toNat = a.levels[N[j].toNat]'(by omega) := lv_get (by omega)
        have b1 : -20000 ≤ a.levels[i] ∧ a.levels[i] ≤ 30000 := by
          have := ha.rng i hlt
          omega
        have b2 : -20000 ≤ a.levels[N[j].toNat]'(by omega) ∧ a.levels[N[j].toNat]'(by omega) ≤ 30000 := by
          have := ha.rng N[j].toNat (by omega)
          omega
        have b3 := allowE_bd hg hm i N[j].toNat
        have e3 := hal i N[j].toNat
        have c1 : Contract Try.prog 104 [.agg (encGrid a), .int .i64 i] (.ret (.bool (!decide (lv a.levels i = 30000)))) := c104L a (i : Int) (by omega) (by omega)
        have c2 := c104L a N[j] hb (by omega)
        have c3 : Contract Try.prog 106 [.agg (encSlopes g m), .int .i64 i, .int .i64 N[j]] (.ret (.int .i64 (allowE g m i N[j].toNat))) := c106L g hg m hm (i : Int) N[j] (by omega) (by omega)
        repeat' first
           | (with_reducible apply go_op)
           | (with_reducible apply go_next)
           | ((with_reducible (show evOp _ _ _ _ _ _)); first
             | ((with_reducible (show evOp _ (.move _) _ _ _ _)) ; first | ((with_reducible apply go_mv_int); rfl; rfl) | ((with_reducible apply go_mv_bool); rfl; rfl) | ((with_reducible apply go_mv_os); rfl; rfl))
             | ((with_reducible apply go_as))
             | ((with_reducible (show evOp _ (.load _ _) _ _ _ _)) ; first | ((with_reducible apply go_load_om); rfl; rfl; rfl; rfl; rotate_left; assumption) | ((with_reducible apply go_ld_agg); rfl; rfl; rfl; rfl) | ((with_reducible apply go_load); rfl; rfl; rfl) | ((with_reducible apply go_load_own); rfl; rfl; rfl; rfl))
             | (((with_reducible apply go_fieldAddr_own); rfl; rfl; rfl))
             | ((with_reducible (show evOp _ (.indexAddr _ _ _) _ _ _ _)) ; first | ((with_reducible apply go_index_nat); rfl; rfl; (with_reducible rfl); (intro; rfl); rfl; omega; (intro hlt)) | ((with_reducible apply go_index_om); rfl; rfl; rfl; (with_reducible rfl); rfl; rfl; omega; (intro hlt)) | ((with_reducible apply go_index); rfl; rfl; (intro; rfl); rfl; omega; intro hlt))
             | ((with_reducible (show evOp _ (.binOp _ _ _ _ _) _ _ _ _)) ; first | ((with_reducible apply go_cmp); rfl; rfl; rfl; rfl) | ((with_reducible apply go_add); rfl; rfl; rfl; omega) | ((with_reducible apply go_sub); rfl; rfl; rfl; omega))
             | ((with_reducible (show evOp _ (.call _) _ _ _ _)) ; first | ((with_reducible apply go_fn_bool); rfl; (exact c1); rfl) | ((with_reducible apply go_fn_bool); rfl; (exact c2); rfl) | ((with_reducible apply go_fn_int); rfl; (exact c3); rfl))
             | (((with_reducible apply go_not); rfl; rfl))
             | (((with_reducible apply go_pick); rfl; rfl; rfl))
             | (((with_reducible apply go_bd3_iii); rfl; rfl; rfl; rfl; rfl))
             | (((with_reducible apply go_bs1_agg); rfl; rfl; rfl; rfl; rfl; rfl)))
           | ((with_reducible (show evOps _ _ _ _ _ _)); first
             | (with_reducible apply go_nil)
             | ((with_reducible apply go_run); rfl; rfl)
             | ((with_reducible apply go_pass); rfl; rfl; rfl)
             | (((with_reducible apply go_guard); rfl) <;> (intro h; simp only [h, Bool.not_true, Bool.not_false]; (try with_reducible (refine ⟨rfl, ?_⟩)); try simp only [decide_eq_true_eq, decide_eq_false_iff_not, Bool.not_eq_true', Bool.not_eq_false', Bool.not_true, Bool.not_false] at h; try exact absurd trivial h))
             | ((with_reducible apply go_pre); rfl)
             | (with_reducible apply go_pre_nil)
             | ((with_reducible apply go_suf); rfl)
             | (with_reducible apply go_suf_nil))
           | ((with_reducible (show ev _ _ _ _)); first
             | (with_reducible apply go_seq)
             | (with_reducible apply go_region)
             | ((with_reducible apply go_cond_t); rfl; rfl)
             | (((with_reducible apply go_cond); rfl) <;> (intro h; simp only [h]; try simp only [decide_eq_true_eq, decide_eq_false_iff_not, Bool.not_eq_true', Bool.not_eq_false', Bool.not_true, Bool.not_false] at h; try exact absurd trivial h))
             | ((with_reducible apply go_order); kernel_rfl; rfl)
             | (with_reducible apply go_skipc)
             | (with_reducible apply go_block)
             | (with_reducible apply go_exit))
           | (with_reducible apply go_kseq)
           | (with_reducible apply go_ksuf)
           | (with_reducible apply go_kblock)
           | (with_reducible apply go_kblock_exit)
           | (with_reducible apply go_kseq_exit)
        all_goals try first
          | exact absurd hlj (by omega)
          | (refine ⟨hlj, trivial, ?_⟩
             rw [hnil (by unfold steepOf; (repeat' split) <;> first | rfl | (exfalso; omega))]
             exact entails_eq (nx := 32) (k := 1) (ns := []) (ks := [5, 22, 21, 20, 6, 15, 14, 2, 3]) [(2, 2), (3, 3), (0, 0), (1, 1)] rfl (by simp) (by kernel_rfl))
        · refine go_app_map (f := encSteep) (a := ⟨_, _, _⟩) (l := steepAcc g a N i j) scalSteep rfl rfl rfl rfl rfl rfl (by kernel_rfl) (by kernel_rfl) hl1 rfl ?_
          repeat' first
           | (with_reducible apply go_op)
           | (with_reducible apply go_next)
           | ((with_reducible (show evOp _ _ _ _ _ _)); first
             | ((with_reducible (show evOp _ (.move _) _ _ _ _)) ; first | ((with_reducible apply go_mv_int); rfl; rfl) | ((with_reducible apply go_mv_os); rfl; rfl))
             | ((with_reducible apply go_as))
             | (((with_reducible apply go_add); rfl; rfl; rfl; omega)))
           | ((with_reducible (show evOps _ _ _ _ _ _)); first
             | (with_reducible apply go_nil))
           | ((with_reducible (show ev _ _ _ _)); first
             | (with_reducible apply go_region))
           | (with_reducible apply go_kseq)
           | (with_reducible apply go_kblock)
          refine ⟨hlj, trivial, ?_⟩
          have e := hone ⟨N[j], i, a.levels[N[j].toNat]'(by omega) - a.levels[i] - allowE g m i N[j].toNat⟩ (by rw [e3] at *; unfold steepOf; rw [if_neg (by omega), if_pos (by omega), if_pos (by omega), e1, e2])
          have el : (steepAcc g a N i j).length + 1 = (steepAcc g a N i (j + 1)).length := by rw [e]; simp
          rw [← e, el]
          exact entails_eq (nx := 32) (k := 1) (ns := []) (ks := [5, 22, 21, 20, 6, 15, 14, 2, 3]) [(2, 2), (3, 3), (0, 0), (1, 1)] rfl (by simp) (by kernel_rfl)
        · refine go_app_map (f := encSteep) (a := ⟨_, _, _⟩) (l := steepAcc g a N i j) scalSteep rfl rfl rfl rfl rfl rfl (by kernel_rfl) (by kernel_rfl) hl1 rfl ?_
          repeat' first
           | (with_reducible apply go_op)
           | (with_reducible apply go_next)
           | ((with_reducible (show evOp _ _ _ _ _ _)); first
             | ((with_reducible (show evOp _ (.move _) _ _ _ _)) ; first | ((with_reducible apply go_mv_int); rfl; rfl) | ((with_reducible apply go_mv_os); rfl; rfl))
             | ((with_reducible apply go_as))
             | (((with_reducible apply go_add); rfl; rfl; rfl; omega)))
           | ((with_reducible (show evOps _ _ _ _ _ _)); first
             | (with_reducible apply go_nil))
           | ((with_reducible (show ev _ _ _ _)); first
             | (with_reducible apply go_region))
           | (with_reducible apply go_kseq)
           | (with_reducible apply go_kblock)
          refine ⟨hlj, trivial, ?_⟩
          have e := hone ⟨i, N[j], a.levels[i] - a.levels[N[j].toNat]'(by omega) - allowE g m i N[j].toNat⟩ (by rw [e3] at *; unfold steepOf; rw [if_neg (by omega), if_neg (by omega), if_pos (by omega), e1, e2])
          have el : (steepAcc g a N i j).length + 1 = (steepAcc g a N i (j + 1)).length := by rw [e]; simp
          rw [← e, el]
          exact entails_eq (nx := 32) (k := 1) (ns := []) (ks := [5, 22, 21, 20, 6, 15, 14, 2, 3]) [(2, 2), (3, 3), (0, 0), (1, 1)] rfl (by simp) (by kernel_rfl)
      · have e : j = N.length := by omega
        subst e
        repeat' first
           | (with_reducible apply go_op)
           | (with_reducible apply go_next)
           | ((with_reducible (show evOp _ _ _ _ _ _)); first
             | ((with_reducible (show evOp _ (.move _) _ _ _ _)) ; first | ((with_reducible apply go_mv_int); rfl; rfl) | ((with_reducible apply go_mv_bool); rfl; rfl))
             | ((with_reducible apply go_as))
             | ((with_reducible (show evOp _ (.load _ _) _ _ _ _)) ; first | ((with_reducible apply go_load_om); rfl; rfl; rfl; rfl; rotate_left; assumption) | ((with_reducible apply go_ld_agg); rfl; rfl; rfl; rfl))
             | (((with_reducible apply go_index_om); rfl; rfl; rfl; (with_reducible rfl); rfl; rfl; omega; (intro hlt)))
             | ((with_reducible (show evOp _ (.binOp _ _ _ _ _) _ _ _ _)) ; first | ((with_reducible apply go_cmp); rfl; rfl; rfl; rfl) | ((with_reducible apply go_add); rfl; rfl; rfl; omega))
             | (((with_reducible apply go_pick); rfl; rfl; rfl)))
           | ((with_reducible (show evOps _ _ _ _ _ _)); first
             | (with_reducible apply go_nil)
             | ((with_reducible apply go_run); rfl; rfl)
             | ((with_reducible apply go_pass); rfl; rfl; rfl)
             | (((with_reducible apply go_guard); rfl) <;> (intro h; simp only [h, Bool.not_true, Bool.not_false]; (try with_reducible (refine ⟨rfl, ?_⟩)); try simp only [decide_eq_true_eq, decide_eq_false_iff_not, Bool.not_eq_true', Bool.not_eq_false', Bool.not_true, Bool.not_false] at h; try exact absurd trivial h)))
           | ((with_reducible (show ev _ _ _ _)); first
             | (with_reducible apply go_seq)
             | (with_reducible apply go_region)
             | ((with_reducible apply go_cond_t); rfl; rfl)
             | (((with_reducible apply go_cond); rfl) <;> (intro h; simp only [h]; try simp only [decide_eq_true_eq, decide_eq_false_iff_not, Bool.not_eq_true', Bool.not_eq_false', Bool.not_true, Bool.not_false] at h; try exact absurd trivial h))
             | (with_reducible apply go_skipc)
             | (with_reducible apply go_block)
             | (with_reducible apply go_exit))
           | (with_reducible apply go_kseq)
           | (with_reducible apply go_kblock)
           | (with_reducible apply go_kblock_exit)
           | (with_reducible apply go_kseq_exit)
        rotate_left
        all_goals try exact absurd ‹_› (by omega)
        refine ⟨hlt, trivial, ?_⟩
        rw [hend]
        exact entails_eq (nx := 32) (k := 1) (ns := []) (ks := [5, 15, 14, 2, 3]) [(2, 2), (0, 0), (1, 1)] rfl (by simp) (by kernel_rfl)
    · exact absurd hlt (by omega)
  · have e : i = a.levels.length := by omega
    subst e
    repeat' first
           | (with_reducible apply go_op)
           | (with_reducible apply go_next)
           | ((with_reducible (show evOp _ _ _ _ _ _)); first
             | ((with_reducible (show evOp _ (.move _) _ _ _ _)) ; first | ((with_reducible apply go_mv_int); rfl; rfl) | ((with_reducible apply go_mv_os); rfl; rfl))
             | ((with_reducible apply go_as))
             | (((with_reducible apply go_ld_agg); rfl; rfl; rfl; rfl))
             | (((with_reducible apply go_cmp); rfl; rfl; rfl; rfl)))
           | ((with_reducible (show evOps _ _ _ _ _ _)); first
             | (with_reducible apply go_nil))
           | ((with_reducible (show ev _ _ _ _)); first
             | (with_reducible apply go_seq)
             | (with_reducible apply go_region)
             | (((with_reducible apply go_cond); rfl) <;> (intro h; simp only [h]; try simp only [decide_eq_true_eq, decide_eq_false_iff_not, Bool.not_eq_true', Bool.not_eq_false', Bool.not_true, Bool.not_false] at h; try exact absurd trivial h))
             | (with_reducible apply go_ret)
             | (with_reducible apply go_skipc)
             | (with_reducible apply go_block)
             | (with_reducible apply go_exit))
           | (with_reducible apply go_kseq)
           | (with_reducible apply go_kblock_exit)
           | (with_reducible apply go_kseq_exit)
    · exact absurd hlt (by omega)
    · exact end_frn rfl rfl rfl rfl
end Go.Pv.Soil

import Derived.Test.YtdedpndkohfgbaaProg
import Derived.Test.YtdedpndkohfgbaaSZ
import Derived.Test.YtdedpndkohfgbaaSW
import Derived.KernelRfl
import Derived.Test.YtdedpndkohfgbaaSY
import Derived.Test.YtdedpndkohfgbaaSI
import Derived.Test.YtdedpndkohfgbaaPvC
/- Part of the proofs over Ytdedpndkohfgbaa: S57, S58. -/
set_option linter.unusedVariables false
set_option linter.unusedSimpArgs false
set_option linter.unnecessarySimpa false
open Go Go.Proofs Go.Pv
set_option maxHeartbeats 8000000
set_option maxRecDepth 100000
set_option linter.unusedSimpArgs false
set_option linter.unusedVariables false
namespace Go.Pv.Soil

/-- A cell, if it is known, is dug to a level. -/
def digL (l : List Int) (i : Nat) (v : Int) : List Int := if lv l i = 30000 then l else l.set i (min (lv l i) v)
theorem digL_len (l : List Int) (i : Nat) (v : Int) : (digL l i v).length = l.length := by
  unfold digL; split <;> simp
theorem digL_lv {l : List Int} {i : Nat} (hi : i < l.length) (v : Int) (j : Nat) : lv (digL l i v) j = if i = j ∧ lv l j ≠ 30000 then min (lv l j) v else lv l j := by
  unfold digL
  split
  · rename_i h
    by_cases e : i = j
    · subst e; rw [if_neg (by omega)]
    · rw [if_neg (by omega)]
  · rename_i h
    rw [lv_set hi]
    by_cases e : i = j
    · subst e; rw [if_pos rfl, if_pos ⟨rfl, h⟩]
    · rw [if_neg e, if_neg (by omega)]

/-- Digging, slumping, digging and slumping is digging twice, the other way round, and slumping. -/
theorem dig_once {N : Net} {m x y : List Int} {A B : Nat} {t d : Int} (hA : A < m.length) (hB : B < m.length) (hm : ∀ i, i < m.length → lv m i ≠ 30000 → lv m i ≤ 20000) (ht : t < 30000) (hd : d < 30000)
    (hx : IsGS N (-1) (digL m A t) x) (hy : IsGS N (-1) (digL x B d) y) : IsGS N (-1) (digL (digL m B d) A t) y := by
  have l1 := digL_len m A t
  have l2 := hx.below.1
  have l3 := digL_len x B d
  have l4 := hy.below.1
  have l5 := digL_len m B d
  have l6 := digL_len (digL m B d) A t
  have f1 := digL_lv hA t
  have f2 := digL_lv (l := x) (i := B) (by omega) d
  have f3 := digL_lv hB d
  have f4 := digL_lv (l := digL m B d) (i := A) (by omega) t
  have kx : ∀ i, i < m.length → (lv x i = 30000 ↔ lv m i = 30000) := fun i hi => by
    have h := (hx.below.2 i (by omega)).1
    rw [f1] at h
    have := hm i hi
    split at h
    · rename_i hc
      obtain ⟨_, hc⟩ := hc
      constructor
      · intro e; have := h.1 e; omega
      · intro e; exact absurd e hc
    · exact h
  have k4 : ∀ i, i < m.length → (lv (digL (digL m B d) A t) i = 30000 ↔ lv m i = 30000) := fun i hi => by
    have h1 := hm i hi
    rw [f4, f3]
    (repeat' split) <;> omega
  have k2 : ∀ i, i < m.length → (lv (digL x B d) i = 30000 ↔ lv m i = 30000) := fun i hi => by
    have h1 := hm i hi
    have h2 := kx i hi
    have h3 := kx B hB
    have hle : lv m i ≠ 30000 → lv x i ≤ 20000 := fun hk => by
      have h4 := (hx.below.2 i (by omega)).2
      rw [f1] at h4
      split at h4
      · have := h4 (by omega); omega
      · have := h4 hk; omega
    rw [f2]
    split
    · rename_i hc
      obtain ⟨_, hc⟩ := hc
      constructor
      · intro e; omega
      · intro e; exact absurd (h2.2 e) hc
    · exact h2
  have hbel : ∀ i, i < m.length → lv m i ≠ 30000 → lv y i ≤ lv (digL (digL m B d) A t) i := fun i hi hk => by
    have h1 := (hy.below.2 i (by omega)).2 (fun e => hk ((k2 i hi).1 e))
    have h2 : lv (digL m A t) i ≠ 30000 := fun e => hk (by
      have := (hx.below.2 i (by omega)).1.2 e
      exact (kx i hi).1 this)
    have h3 := (hx.below.2 i (by omega)).2 h2
    have hkx : lv x i ≠ 30000 := fun e => hk ((kx i hi).1 e)
    rw [f2] at h1
    rw [f1] at h3
    rw [f4, f3]
    (repeat' split at h1) <;> (repeat' split at h3) <;> (repeat' split) <;> omega
  have ky : ∀ i, i < m.length → (lv y i = 30000 ↔ lv m i = 30000) := fun i hi => by
    have := (hy.below.2 i (by omega)).1
    rw [this]; exact k2 i hi
  refine ⟨⟨by omega, fun i hi => ?_⟩, hy.stable, fun s hs hst i hi hk => ?_⟩
  · have hi : i < m.length := by omega
    refine ⟨by rw [k4 i hi]; exact ky i hi, fun hk => ?_⟩
    have := hbel i hi (fun e => hk ((k4 i hi).2 e))
    omega
  · have hi : i < m.length := by omega
    have ls := hs.1
    have ks : ∀ j, j < m.length → (lv s j = 30000 ↔ lv m j = 30000) := fun j hj => by
      have := (hs.2 j (by omega)).1
      rw [this]; exact k4 j hj
    have hsm : ∀ j, j < m.length → lv m j ≠ 30000 → lv s j ≤ lv (digL (digL m B d) A t) j := fun j hj hk => by
      have := (hs.2 j (by omega)).2 (fun e => hk ((k4 j hj).1 e))
      omega
    have k1 : ∀ j, j < m.length → (lv (digL m A t) j = 30000 ↔ lv m j = 30000) := fun j hj => by
      rw [← (hx.below.2 j (by omega)).1]; exact kx j hj
    have hs1 : Beyond (-1) (digL m A t) s := ⟨by omega, fun j hj => ⟨by rw [k1 j (by omega)]; exact ks j (by omega), fun hk => by
      have hk' : lv m j ≠ 30000 := fun e => hk ((k1 j (by omega)).2 e)
      have h1 := hsm j (by omega) hk'
      rw [f4, f3] at h1
      rw [f1]
      (repeat' split at h1) <;> (repeat' split) <;> omega⟩⟩
    have hsx := hx.best s hs1 hst
    have hs2 : Beyond (-1) (digL x B d) s := ⟨by omega, fun j hj => ⟨by rw [k2 j (by omega)]; exact ks j (by omega), fun hk => by
      have hk' : lv m j ≠ 30000 := fun e => hk ((k2 j (by omega)).2 e)
      have h1 := hsm j (by omega) hk'
      have h2 := hsx j (by omega) (fun e => hk' ((k1 j (by omega)).1 e))
      have h3 : lv m B = 30000 ↔ lv x B = 30000 := (kx B hB).symm
      rw [f4, f3] at h1
      rw [f2]
      (repeat' split at h1) <;> (repeat' split) <;> omega⟩⟩
    exact hy.best s hs2 hst i (by omega) (fun e => hk (by rw [k4 i hi]; exact (k2 i hi).1 e))

/-- The sum of the volumes. -/
def volS (l : List Share) : Int := (l.map (·.vol)).sum
theorem volS_set : ∀ (l : List Share) (k : Nat) (s : Share) (h : k < l.length), volS (l.set k s) + l[k].vol = volS l + s.vol
  | a :: l, 0, s, _ => by simp only [volS, List.set_cons_zero, List.map_cons, List.sum_cons, List.getElem_cons_zero]; omega
  | a :: l, k + 1, s, h => by
    have := volS_set l k s (by simpa using h)
    simp only [volS, List.set_cons_succ, List.map_cons, List.sum_cons, List.getElem_cons_succ] at this ⊢
    omega
theorem volS_add {l : List Share} {k : Nat} (h : k < l.length) (v : Int) : volS (addS l k v) = volS l + v := by
  rw [addS_at h]
  have := volS_set l k ⟨l[k].soil, l[k].vol + v⟩ h
  simp only at this
  omega
def spanS (C : List Part) : Nat → Int
  | 0 => 0
  | j + 1 => spanS C j + match C[j]? with
    | some p => p.top - p.bottom
    | none => 0
theorem volS_accP {g : Ground} {side : Int} {L : List Share} {C : List Part} (hC : ∀ q ∈ C, (ofName g.soils q.soil).toNat < L.length) : ∀ j, j ≤ C.length → volS (accP g side L C j) = volS L + spanS C j * side * side
  | 0, _ => by simp [accP, spanS]
  | j + 1, h => by
    have ih := volS_accP (g := g) (side := side) hC j (by omega)
    have hj : j < C.length := by omega
    rw [accP_succ g side L hj, volS_add (by rw [accP_len]; exact hC _ (List.getElem_mem hj)), ih]
    have e : spanS C (j + 1) = spanS C j + (C[j].top - C[j].bottom) := by simp only [spanS, List.getElem?_eq_getElem hj]
    rw [e, Int.add_mul, Int.add_mul]
    omega
theorem span_lev {f : Int} {C : List Part} (hC : ∀ i (h : i < C.length), C[i].top = lev f C i) : ∀ j, j ≤ C.length → spanS C j = f - lev f C j
  | 0, _ => by simp [spanS, lev]
  | j + 1, h => by
    have hj : j < C.length := by omega
    have ih := span_lev hC j (by omega)
    have h1 := hC j hj
    have e : spanS C (j + 1) = spanS C j + (C[j].top - C[j].bottom) := by simp only [spanS, List.getElem?_eq_getElem hj]
    rw [e, ih, lev_next hj, h1]
    omega
theorem span_col {g : Ground} (hg : OkG g) {p : Pt} {f t : Int} (htf : t ≤ f) : spanS (columnE g p f t) (columnE g p f t).length = f - t := by
  have hG := col_good hg (p := p) htf
  rw [span_lev (fun i h => (hG.1 i h).1) _ (Nat.le_refl _), hG.2]
theorem volS_cells {g : Ground} (hg : OkG g) {m a : Grid} (hle : ∀ i, i < m.levels.length → lv a.levels i ≤ lv m.levels i) : ∀ i, i ≤ m.levels.length → volS (cellsS g m a i) = fallN m a i
  | 0, _ => by
    simp only [cellsS, fallN, volS, List.map_map]
    have : ∀ l : List Soil, (l.map ((fun s : Share => s.vol) ∘ fun s : Soil => (⟨s.name, 0⟩ : Share))).sum = 0 := fun l => by
      induction l with
      | nil => rfl
      | cons a l ih => simp only [List.map_cons, List.sum_cons, ih]; rfl
    exact this _
  | i + 1, h => by
    have ih := volS_cells hg hle i (by omega)
    simp only [cellsS, fallN]
    split
    · rename_i hk
      rw [volS_accP (fun q hq => by rw [cellsS_len]; exact (col_part hg hq).2.2.2.2) _ (Nat.le_refl _), ih]
      congr 3
      exact span_col hg (hle i (by omega))
    · rw [ih]; simp
theorem cut_fall {m a : Grid} (hm : OkGrid m) (ha : OkGrid a) (hla : a.levels.length = m.levels.length) (hle : ∀ i, i < m.levels.length → lv a.levels i ≤ lv m.levels i) : ∀ n, n ≤ m.levels.length → cutN m a n = fallN m a n ∧ fillN m a n = 0
  | 0, _ => ⟨rfl, rfl⟩
  | n + 1, h => by
    have ih := cut_fall hm ha hla hle n (by omega)
    have h1 := hle n (by omega)
    have h2 := hm.rng n (by omega)
    have h3 := ha.rng n (by omega)
    simp only [cutN, fillN, fallN]
    split
    · rename_i hk
      have r2 := h2 hk.1
      have r3 := h3 hk.2
      have e1 : dE (lv a.levels n) (lv m.levels n) = lv m.levels n - lv a.levels n := by unfold dE; omega
      have e2 : dE (lv m.levels n) (lv a.levels n) = 0 := by unfold dE; omega
      rw [e1, e2, ih.1, ih.2]
      refine ⟨?_, by simp⟩
      rw [Int.mul_comm (m.side * m.side), Int.mul_assoc]
    · rw [ih.1, ih.2]; simp
end Go.Pv.Soil

open Go Go.Proofs Go.Pv
set_option maxHeartbeats 8000000
set_option maxRecDepth 100000
set_option linter.unusedSimpArgs false
set_option linter.unusedVariables false
namespace Go.Pv.Soil

theorem c66 : Contract Try.prog 66 [] (.ret (.bool true)) := okB_ok (n := 1000) (k := 20) (by kernel_rfl)

theorem c67 (m : Grid) (hm : OkGrid m) (i : Nat) (hi : i < m.levels.length) (v : Int) : Contract Try.prog 67 [.agg (encGrid m), .int .i64 i, .int .i64 v] (.ret (.agg (encG5 m ++ [.fr 1 ((digL m.levels i v).map encInt)]))) := by
  have hs := hm.small
  have e1 := lv_get hi
  have c1 : Contract Try.prog 41 [.agg (encG5 m ++ [.sl (m.levels.map encInt)]), .int .i64 i] (.ret (.bool (!decide (lv m.levels i = 30000)))) := c41L m (i : Int) (by omega) (by omega)
  by_cases hk : lv m.levels i = 30000
  · have ed : digL m.levels i v = m.levels := if_pos hk
    rw [decide_eq_true hk] at c1
    rw [ed]
    refine contract_of mix Try.func67 rfl rfl (by rw [Try.ntmps67]; exact Nat.le_of_ble_eq_true rfl) ?_; rw [Try.results67, Try.ntmps67]; simp only [argsE, Nat.reduceAdd]
    repeat' first
           | (with_reducible apply go_op)
           | (with_reducible apply go_next)
           | ((with_reducible (show evOp _ _ _ _ _ _)); first
             | (((with_reducible apply go_mv_int); rfl; rfl))
             | (((with_reducible apply go_ld_agg); rfl; rfl; rfl; rfl))
             | ((with_reducible (show evOp _ (.call _) _ _ _ _)) ; first | ((with_reducible apply (go_fn_agf (cs := encG5 m))); rfl; (exact c91 m (by omega)); (exact scalInt); rfl; rfl; rfl; rfl; rfl) | ((with_reducible apply go_fn_bool); (exact purL_agf (cs := encG5 m) rfl (by simp; try assumption) rfl rfl rfl); (exact c1); rfl))
             | (((with_reducible apply go_st_agg); rfl; rfl; rfl; rfl; rfl; rfl; rfl))
             | (((with_reducible apply go_bx_agg); rfl; rfl; (exact Nat.le_of_ble_eq_true rfl); rfl; rfl))
             | (((with_reducible apply go_alloc); rfl; rfl; rfl)))
           | ((with_reducible (show evOps _ _ _ _ _ _)); first
             | (with_reducible apply go_nil))
           | ((with_reducible (show ev _ _ _ _)); first
             | (with_reducible apply go_seq)
             | (with_reducible apply go_region)
             | ((with_reducible apply go_cond_f); rfl; rfl)
             | (with_reducible apply go_ret)
             | (with_reducible apply go_skipc))
           | (with_reducible apply go_kseq)
    exact finK_ret (fin_agf (cs := encG5 m) (len := m.levels.length) rfl rfl (by simp) rfl)
  · have ed : digL m.levels i v = m.levels.set i (min m.levels[i] v) := by unfold digL; rw [if_neg hk, e1]
    rw [decide_eq_false hk] at c1
    rw [ed]
    refine contract_of mix Try.func67 rfl rfl (by rw [Try.ntmps67]; exact Nat.le_of_ble_eq_true rfl) ?_; rw [Try.results67, Try.ntmps67]; simp only [argsE, Nat.reduceAdd]
    repeat' first
           | (with_reducible apply go_op)
           | (with_reducible apply go_next)
           | ((with_reducible (show evOp _ _ _ _ _ _)); first
             | (((with_reducible apply go_mv_int); rfl; rfl))
             | ((with_reducible (show evOp _ (.load _ _) _ _ _ _)) ; first | ((with_reducible apply go_load_om); rfl; rfl; rfl; rfl; rotate_left; assumption) | ((with_reducible apply go_ld_agg); rfl; rfl; rfl; rfl) | ((with_reducible apply go_load_own); rfl; rfl; rfl; rfl))
             | (((with_reducible apply go_fieldAddr_own); rfl; rfl; rfl))
             | (((with_reducible apply go_index_om); rfl; rfl; rfl; (with_reducible rfl); rfl; rfl; omega; (intro hlt)))
             | ((with_reducible (show evOp _ (.call _) _ _ _ _)) ; first | ((with_reducible apply go_min); rfl; rfl; rfl) | ((with_reducible apply (go_fn_agf (cs := encG5 m))); rfl; (exact c91 m (by omega)); (exact scalInt); rfl; rfl; rfl; rfl; rfl) | ((with_reducible apply go_fn_bool); (exact purL_agf (cs := encG5 m) rfl (by simp; try assumption) rfl rfl rfl); (exact c1); rfl))
             | (((with_reducible apply go_st_agg); rfl; rfl; rfl; rfl; rfl; rfl; rfl))
             | (((with_reducible apply go_bx_agg); rfl; rfl; (exact Nat.le_of_ble_eq_true rfl); rfl; rfl))
             | (((with_reducible apply go_alloc); rfl; rfl; rfl)))
           | ((with_reducible (show evOps _ _ _ _ _ _)); first
             | (with_reducible apply go_nil)
             | ((with_reducible apply go_pre); rfl)
             | ((with_reducible apply go_pre_stop); rfl)
             | ((with_reducible apply go_suf); rfl)
             | ((with_reducible apply go_suf_stop); rfl))
           | ((with_reducible (show ev _ _ _ _)); first
             | (with_reducible apply go_seq)
             | (with_reducible apply go_region)
             | ((with_reducible apply go_cond_t); rfl; rfl)
             | ((with_reducible apply go_order); kernel_rfl; rfl))
           | (with_reducible apply go_kseq)
           | (with_reducible apply go_ksuf)
    refine go_store_om (f := encInt) (l := m.levels) (a := min m.levels[i] v) rfl rfl rfl hi rfl rfl rfl rfl (Nat.le_of_ble_eq_true rfl) rfl ?_
    repeat' first
           | (with_reducible apply go_op)
           | (with_reducible apply go_next)
           | ((with_reducible (show evOp _ _ _ _ _ _)); first
             | (((with_reducible apply go_ld_agg); rfl; rfl; rfl; rfl))
             | (((with_reducible apply go_st_agg); rfl; rfl; rfl; rfl; rfl; rfl; rfl)))
           | ((with_reducible (show evOps _ _ _ _ _ _)); first
             | (with_reducible apply go_nil))
           | ((with_reducible (show ev _ _ _ _)); first
             | (with_reducible apply go_seq)
             | (with_reducible apply go_region)
             | (with_reducible apply go_ret))
           | (with_reducible apply go_kseq)
    exact finK_ret (fin_agf (cs := encG5 m) (len := m.levels.length) rfl rfl (by simp) rfl)

structure Dig where
  a : Int
  t : Int
  b : Int
  d : Int
def encDig (x : Dig) : List D := [.int .i64 x.a, .int .i64 x.t, .int .i64 x.b, .int .i64 x.d]

theorem bad15 (g : Ground) (m : Grid) (x : Dig) (hlm : m.levels.length ≤ 9223372036854775807) (h1 : g.soils.length ≤ 9223372036854775807) (h2 : g.borings.length ≤ 9223372036854775807) (h : ¬ (m.levels.length ≤ 30 ∧ g.soils.length ≤ 10 ∧ g.borings.length ≤ 22 ∧ groundE g = 0 ∧ gridE m = 0)) : Contract Try.prog 15 [.agg (encGround g), .agg (encGrid m), .agg (encDig x)] (.ret (.bool true)) := by
  have h24 := c24 m
  by_cases q1 : m.levels.length ≤ 30
  · rw [decide_eq_true q1] at h24
    by_cases q2 : g.soils.length ≤ 10
    · by_cases q3 : g.borings.length ≤ 22
      · have h23 := c23 g (by omega) (by omega)
        have h28 := c28 m (by omega)
        generalize groundE g = g1 at *
        generalize gridE m = g2 at *
        refine contract_of mix Try.func15 rfl rfl (by rw [Try.ntmps15]; exact Nat.le_of_ble_eq_true rfl) ?_; rw [Try.results15, Try.ntmps15]; simp only [argsE, Nat.reduceAdd]
        repeat' first
           | (with_reducible apply go_op)
           | (with_reducible apply go_next)
           | ((with_reducible (show evOp _ _ _ _ _ _)); first
             | (((with_reducible apply go_mv_bool); rfl; rfl))
             | ((with_reducible apply go_as))
             | ((with_reducible (show evOp _ (.load _ _) _ _ _ _)) ; first | ((with_reducible apply go_ld_agg); rfl; rfl; rfl; rfl) | ((with_reducible apply go_load_own); rfl; rfl; rfl; rfl))
             | (((with_reducible apply go_fieldAddr_own); rfl; rfl; rfl))
             | (((with_reducible apply go_cmp); rfl; rfl; rfl; rfl))
             | ((with_reducible (show evOp _ (.call _) _ _ _ _)) ; first | ((with_reducible apply go_len); rfl; rfl) | ((with_reducible apply go_fn_bool); rfl; (exact c66); rfl) | ((with_reducible apply go_fn_bool); rfl; (exact h24); rfl) | ((with_reducible apply go_fn_int); rfl; (exact h23); rfl) | ((with_reducible apply go_fn_int); rfl; (exact h28); rfl))
             | (((with_reducible apply go_not); rfl; rfl))
             | (((with_reducible apply go_pick); rfl; rfl; rfl))
             | (((with_reducible apply go_bx_agg); rfl; rfl; (exact Nat.le_of_ble_eq_true rfl); rfl; rfl)))
           | ((with_reducible (show evOps _ _ _ _ _ _)); first
             | (with_reducible apply go_nil)
             | ((with_reducible apply go_run); rfl; rfl)
             | ((with_reducible apply go_pass); rfl; rfl; rfl)
             | (((with_reducible apply go_guard); rfl) <;> (intro h; simp only [h, Bool.not_true, Bool.not_false]; (try with_reducible (refine ⟨rfl, ?_⟩)); try simp only [decide_eq_true_eq, decide_eq_false_iff_not, Bool.not_eq_true', Bool.not_eq_false', Bool.not_true, Bool.not_false] at h; try exact absurd trivial h))
             | ((with_reducible apply go_pre); rfl))
           | ((with_reducible (show ev _ _ _ _)); first
             | (with_reducible apply go_seq)
             | (with_reducible apply go_region)
             | ((with_reducible apply go_cond_t); rfl; rfl)
             | ((with_reducible apply go_cond_f); rfl; rfl)
             | (((with_reducible apply go_cond); rfl) <;> (intro h; simp only [h]; try simp only [decide_eq_true_eq, decide_eq_false_iff_not, Bool.not_eq_true', Bool.not_eq_false', Bool.not_true, Bool.not_false] at h; try exact absurd trivial h))
             | ((with_reducible apply go_order); kernel_rfl; rfl)
             | (with_reducible apply go_ret)
             | (with_reducible apply go_skipc))
           | (with_reducible apply go_kseq)
           | (with_reducible apply go_kseq_ret)
           | ((with_reducible apply end_bool); rfl)
           | (with_reducible rfl)
        all_goals (exfalso; omega)
      · refine contract_of mix Try.func15 rfl rfl (by rw [Try.ntmps15]; exact Nat.le_of_ble_eq_true rfl) ?_; rw [Try.results15, Try.ntmps15]; simp only [argsE, Nat.reduceAdd]
        repeat' first
           | (with_reducible apply go_op)
           | (with_reducible apply go_next)
           | ((with_reducible (show evOp _ _ _ _ _ _)); first
             | (((with_reducible apply go_mv_bool); rfl; rfl))
             | ((with_reducible apply go_as))
             | ((with_reducible (show evOp _ (.load _ _) _ _ _ _)) ; first | ((with_reducible apply go_ld_agg); rfl; rfl; rfl; rfl) | ((with_reducible apply go_load_own); rfl; rfl; rfl; rfl))
             | (((with_reducible apply go_fieldAddr_own); rfl; rfl; rfl))
             | (((with_reducible apply go_cmp); rfl; rfl; rfl; rfl))
             | ((with_reducible (show evOp _ (.call _) _ _ _ _)) ; first | ((with_reducible apply go_len); rfl; rfl) | ((with_reducible apply go_fn_bool); rfl; (exact c66); rfl) | ((with_reducible apply go_fn_bool); rfl; (exact h24); rfl))
             | (((with_reducible apply go_not); rfl; rfl))
             | (((with_reducible apply go_pick); rfl; rfl; rfl))
             | (((with_reducible apply go_bx_agg); rfl; rfl; (exact Nat.le_of_ble_eq_true rfl); rfl; rfl)))
           | ((with_reducible (show evOps _ _ _ _ _ _)); first
             | (with_reducible apply go_nil)
             | ((with_reducible apply go_run); rfl; rfl)
             | ((with_reducible apply go_pass); rfl; rfl; rfl)
             | (((with_reducible apply go_guard); rfl) <;> (intro h; simp only [h, Bool.not_true, Bool.not_false]; (try with_reducible (refine ⟨rfl, ?_⟩)); try simp only [decide_eq_true_eq, decide_eq_false_iff_not, Bool.not_eq_true', Bool.not_eq_false', Bool.not_true, Bool.not_false] at h; try exact absurd trivial h)))
           | ((with_reducible (show ev _ _ _ _)); first
             | (with_reducible apply go_seq)
             | (with_reducible apply go_region)
             | ((with_reducible apply go_cond_t); rfl; rfl)
             | ((with_reducible apply go_cond_f); rfl; rfl)
             | (with_reducible apply go_ret)
             | (with_reducible apply go_skipc))
           | (with_reducible apply go_kseq)
           | (with_reducible apply go_kseq_ret)
           | ((with_reducible apply end_bool); rfl)
           | (with_reducible rfl)
        all_goals (exfalso; omega)
    · refine contract_of mix Try.func15 rfl rfl (by rw [Try.ntmps15]; exact Nat.le_of_ble_eq_true rfl) ?_; rw [Try.results15, Try.ntmps15]; simp only [argsE, Nat.reduceAdd]
      repeat' first
           | (with_reducible apply go_op)
           | (with_reducible apply go_next)
           | ((with_reducible (show evOp _ _ _ _ _ _)); first
             | (((with_reducible apply go_mv_bool); rfl; rfl))
             | ((with_reducible apply go_as))
             | ((with_reducible (show evOp _ (.load _ _) _ _ _ _)) ; first | ((with_reducible apply go_ld_agg); rfl; rfl; rfl; rfl) | ((with_reducible apply go_load_own); rfl; rfl; rfl; rfl))
             | (((with_reducible apply go_fieldAddr_own); rfl; rfl; rfl))
             | (((with_reducible apply go_cmp); rfl; rfl; rfl; rfl))
             | ((with_reducible (show evOp _ (.call _) _ _ _ _)) ; first | ((with_reducible apply go_len); rfl; rfl) | ((with_reducible apply go_fn_bool); rfl; (exact c66); rfl) | ((with_reducible apply go_fn_bool); rfl; (exact h24); rfl))
             | (((with_reducible apply go_not); rfl; rfl))
             | (((with_reducible apply go_pick); rfl; rfl; rfl))
             | (((with_reducible apply go_bx_agg); rfl; rfl; (exact Nat.le_of_ble_eq_true rfl); rfl; rfl)))
           | ((with_reducible (show evOps _ _ _ _ _ _)); first
             | (with_reducible apply go_nil)
             | ((with_reducible apply go_run); rfl; rfl)
             | ((with_reducible apply go_pass); rfl; rfl; rfl)
             | (((with_reducible apply go_guard); rfl) <;> (intro h; simp only [h, Bool.not_true, Bool.not_false]; (try with_reducible (refine ⟨rfl, ?_⟩)); try simp only [decide_eq_true_eq, decide_eq_false_iff_not, Bool.not_eq_true', Bool.not_eq_false', Bool.not_true, Bool.not_false] at h; try exact absurd trivial h)))
           | ((with_reducible (show ev _ _ _ _)); first
             | (with_reducible apply go_seq)
             | (with_reducible apply go_region)
             | ((with_reducible apply go_cond_t); rfl; rfl)
             | ((with_reducible apply go_cond_f); rfl; rfl)
             | (with_reducible apply go_ret)
             | (with_reducible apply go_skipc))
           | (with_reducible apply go_kseq)
           | (with_reducible apply go_kseq_ret)
           | ((with_reducible apply end_bool); rfl)
           | (with_reducible rfl)
      all_goals (exfalso; omega)
  · rw [decide_eq_false q1] at h24
    refine contract_of mix Try.func15 rfl rfl (by rw [Try.ntmps15]; exact Nat.le_of_ble_eq_true rfl) ?_; rw [Try.results15, Try.ntmps15]; simp only [argsE, Nat.reduceAdd]
    repeat' first
           | (with_reducible apply go_op)
           | (with_reducible apply go_next)
           | ((with_reducible (show evOp _ _ _ _ _ _)); first
             | (((with_reducible apply go_mv_bool); rfl; rfl))
             | ((with_reducible apply go_as))
             | (((with_reducible apply go_ld_agg); rfl; rfl; rfl; rfl))
             | ((with_reducible (show evOp _ (.call _) _ _ _ _)) ; first | ((with_reducible apply go_fn_bool); rfl; (exact c66); rfl) | ((with_reducible apply go_fn_bool); rfl; (exact h24); rfl))
             | (((with_reducible apply go_not); rfl; rfl))
             | (((with_reducible apply go_pick); rfl; rfl; rfl))
             | (((with_reducible apply go_bx_agg); rfl; rfl; (exact Nat.le_of_ble_eq_true rfl); rfl; rfl)))
           | ((with_reducible (show evOps _ _ _ _ _ _)); first
             | (with_reducible apply go_nil)
             | ((with_reducible apply go_pass); rfl; rfl; rfl))
           | ((with_reducible (show ev _ _ _ _)); first
             | (with_reducible apply go_seq)
             | (with_reducible apply go_region)
             | ((with_reducible apply go_cond_t); rfl; rfl)
             | ((with_reducible apply go_cond_f); rfl; rfl)
             | (with_reducible apply go_ret)
             | (with_reducible apply go_skipc))
           | (with_reducible apply go_kseq)
           | (with_reducible apply go_kseq_ret)
           | ((with_reducible apply end_bool); rfl)
           | (with_reducible rfl)

end Go.Pv.Soil

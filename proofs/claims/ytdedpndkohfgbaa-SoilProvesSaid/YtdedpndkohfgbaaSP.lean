import Derived.Test.YtdedpndkohfgbaaProg
import Derived.Test.YtdedpndkohfgbaaSO
import Derived.KernelRfl
/- Part of the proofs over Ytdedpndkohfgbaa: S42, S43. -/
set_option linter.unusedVariables false
set_option linter.unusedSimpArgs false
set_option linter.unnecessarySimpa false
open Go Go.Proofs Go.Pv
set_option maxHeartbeats 4000000
set_option maxRecDepth 100000
set_option linter.unusedSimpArgs false
set_option linter.unusedVariables false
namespace Go.Pv.Soil

/-- A pair by the numbers of its cells. -/
def mkS (x : Nat × Nat × Int) : Steep := ⟨x.1, x.2.1, x.2.2⟩
def encS (x : Nat × Nat × Int) : List D := [.int .i64 x.1, .int .i64 x.2.1, .int .i64 x.2.2]
theorem scalS : ScalF encS 3 := fun _ => ⟨rfl, rfl⟩
theorem steep_nums {l : List Steep} (h : ∀ s ∈ l, ∃ i k : Nat, s.high = i ∧ s.low = k) : ∃ l2 : List (Nat × Nat × Int), l = l2.map mkS := by
  refine ⟨l.map fun s => (s.high.toNat, s.low.toNat, s.over), ?_⟩
  rw [List.map_map]
  refine (List.map_id' l).symm.trans ?_
  refine List.map_congr_left fun s hs => ?_
  obtain ⟨i, k, h1, h2⟩ := h s hs
  obtain ⟨a, b, c⟩ := s
  simp only at h1 h2
  subst h1 h2
  rfl

theorem c30 (g : Ground) (hg : OkG g) (hs : g.soils.length < 1000000000000) (m : Grid) (hm : OkGrid m) : Contract Try.prog 30 [.agg (encGround g), .agg (encGrid m)] (.ret (.agg (encG5 m ++ [.fr 1 ((slumpE g m (-1)).map encInt)]))) := by
  have hsm := hm.small
  have hN := netE_ok hg hm m.levels.length
  refine contract_of mix Try.func30 rfl rfl (by rw [Try.ntmps30]; exact Nat.le_of_ble_eq_true rfl) ?_; rw [Try.results30, Try.ntmps30]; simp only [argsE, Nat.reduceAdd]
  repeat' first
           | (with_reducible apply go_op)
           | (with_reducible apply go_next)
           | ((with_reducible (show evOp _ _ _ _ _ _)); first
             | (((with_reducible apply go_ld_agg); rfl; rfl; rfl; rfl))
             | (((with_reducible apply (go_fn_agf (cs := encG5 m))); rfl; (exact c91 m (by omega)); (exact scalInt); rfl; rfl; rfl; rfl; rfl))
             | (((with_reducible apply go_st_agg); rfl; rfl; rfl; rfl; rfl; rfl; rfl))
             | (((with_reducible apply go_bx_agg); rfl; rfl; (exact Nat.le_of_ble_eq_true rfl); rfl; rfl))
             | (((with_reducible apply go_alloc); rfl; rfl; rfl)))
           | ((with_reducible (show evOps _ _ _ _ _ _)); first
             | (with_reducible apply go_nil))
           | ((with_reducible (show ev _ _ _ _)); first
             | (with_reducible apply go_seq)
             | (with_reducible apply go_region)
             | (with_reducible apply go_block))
           | (with_reducible apply go_kseq)
  refine go_while (σ := List Int) (left (-1)) (fun l => ⟨[(5, .op 3 0 0), (4, .op 2 0 0), (3, .op 1 0 0), (2, .op 0 0 0)], [(0, ⟨2, true, [encGround g]⟩), (1, ⟨6, true, [encGrid m]⟩), (2, ⟨6, false, [[.int .i64 0, .int .i64 0, .int .i64 0, .int .i64 0, .int .i64 0, .nilsl]]⟩), (3, ⟨6, false, [encG5 m ++ [.os 4 0 m.levels.length]]⟩), (4, ⟨1, true, l.map encInt⟩)], 32, 64⟩) (fun l => Mid (netE g m) (-1) m.levels l) m.levels
    (entails_eq (nx := 32) (k := 1) (ns := []) (ks := [5, 4, 3, 2]) [(0, 0), (32, 1), (64, 2), (160, 3), (133, 4)] rfl (by simp) (by kernel_rfl)) (Mid.start hm.rng) ?_
  intro l hM
  have hll := hM.below.1
  have hokl := hm.withL hll hM.rng
  have h59 : Contract Try.prog 59 [.agg (encGround g), .agg (encGrid (gridL m l))] (.ret (.fr 3 ((steepL g (gridL m l) l.length).map encSteep))) := c59 g hg hs (gridL m l) hokl
  have hmem := fun s hs => steepL_mem (g := g) (m := gridL m l) (n := l.length) (s := s) (Nat.le_refl _) hs
  have hnil : steepL g (gridL m l) l.length = [] ↔ Stable (netE g m) l := steepL_nil g (gridL m l)
  have hLl : (steepL g (gridL m l) l.length).length ≤ l.length * l.length := steepL_len g (gridL m l) l.length
  have hmul := Nat.mul_le_mul (show l.length ≤ 1024 by omega) (show l.length ≤ 1024 by omega)
  obtain ⟨L, hL⟩ := steep_nums (l := steepL g (gridL m l) l.length) (fun s hs => by obtain ⟨i, k, h1, h2, _⟩ := hmem s hs; exact ⟨i, k, h1, h2⟩)
  rw [hL] at h59 hmem hnil hLl
  rw [List.map_map] at h59
  rw [List.length_map] at hLl
  have h59 : Contract Try.prog 59 [.agg (encGround g), .agg (encGrid (gridL m l))] (.ret (.fr 3 (L.map encS))) := h59
  have hmem : ∀ j (hj : j < L.length), L[j].1 < l.length ∧ L[j].2.1 < l.length ∧ besideE m L[j].1 L[j].2.1 = true ∧ lv l L[j].1 ≠ 30000 ∧ lv l L[j].2.1 ≠ 30000 ∧ allowE g m L[j].1 L[j].2.1 < lv l L[j].1 - lv l L[j].2.1 := fun j hj => by
    obtain ⟨i, k, h1, h2, h3⟩ := hmem (mkS L[j]) (List.mem_map_of_mem (List.getElem_mem hj))
    simp only [mkS] at h1 h2
    have h1 : L[j].1 = i := by omega
    have h2 : L[j].2.1 = k := by omega
    rw [h1, h2]
    exact h3
  repeat' first
           | (with_reducible apply go_op)
           | (with_reducible apply go_next)
           | ((with_reducible (show evOp _ _ _ _ _ _)); first
             | ((with_reducible (show evOp _ (.move _) _ _ _ _)) ; first | ((with_reducible apply go_mv_int); rfl; rfl) | ((with_reducible apply go_mv_os); rfl; rfl))
             | ((with_reducible apply go_as))
             | (((with_reducible apply go_ld_agg); rfl; rfl; rfl; rfl))
             | (((with_reducible apply go_cmp); rfl; rfl; rfl; rfl))
             | ((with_reducible (show evOp _ (.call _) _ _ _ _)) ; first | ((with_reducible apply go_len_own); rfl; rfl; rfl) | ((with_reducible apply go_fn_fr); (exact purL_agf2 (cs := encG5 m) rfl rfl (by simp; try assumption) rfl rfl rfl); (exact h59); (exact scalS); rfl))
             | (((with_reducible apply go_st_agg); rfl; rfl; rfl; rfl; rfl; rfl; rfl)))
           | ((with_reducible (show evOps _ _ _ _ _ _)); first
             | (with_reducible apply go_nil))
           | ((with_reducible (show ev _ _ _ _)); first
             | (with_reducible apply go_seq)
             | (with_reducible apply go_region)
             | (((with_reducible apply go_cond); rfl) <;> (intro h; simp only [h]; try simp only [decide_eq_true_eq, decide_eq_false_iff_not, Bool.not_eq_true', Bool.not_eq_false', Bool.not_true, Bool.not_false] at h; try exact absurd trivial h))
             | (with_reducible apply go_ret)
             | (with_reducible apply go_skipc)
             | (with_reducible apply go_block))
           | (with_reducible apply go_kseq)
           | (with_reducible apply go_kseq_ret)
           | (with_reducible apply go_kblock_ret)
  · have e : L = [] := List.length_eq_zero_iff.1 (by omega)
    have hst : Stable (netE g m) l := hnil.1 (by rw [e]; rfl)
    rw [← slumpE_eq hg hm (.inl rfl) (hM.done hst)]
    exact finK_ret (fin_agf (cs := encG5 m) (len := m.levels.length) rfl rfl (by simp; assumption) rfl)
  · refine go_while (σ := List Int × Nat) (fun x => L.length - x.2) (fun x => ⟨[(7, .int .i64 x.2), (6, .os 5 0 L.length), (5, .op 3 0 0), (4, .op 2 0 0), (3, .op 1 0 0), (2, .op 0 0 0)], [(5, ⟨3, true, L.map encS⟩), (0, ⟨2, true, [encGround g]⟩), (1, ⟨6, true, [encGrid m]⟩), (2, ⟨6, false, [[.int .i64 0, .int .i64 0, .int .i64 0, .int .i64 0, .int .i64 0, .nilsl]]⟩), (3, ⟨6, false, [encG5 m ++ [.os 4 0 m.levels.length]]⟩), (4, ⟨1, true, x.1.map encInt⟩)], 32, 64⟩)
      (fun x => x.2 ≤ L.length ∧ Mid (netE g m) (-1) m.levels x.1 ∧ (x.2 = 0 → x.1 = l) ∧ (0 < x.2 → left (-1) x.1 < left (-1) l)) (l, 0)
      (entails_eq (nx := 32) (k := 1) (ns := []) (ks := [7, 6, 5, 4, 3, 2]) [(96, 5), (0, 0), (1, 1), (2, 2), (3, 3), (4, 4)] rfl (by simp) (by kernel_rfl)) ⟨Nat.zero_le _, hM, fun _ => rfl, fun h => absurd h (by simp)⟩ ?_
    rintro ⟨l2, j⟩ ⟨hj, hM2, hz, hp⟩
    simp only at hj hM2 hz hp ⊢
    have hll2 := hM2.below.1
    by_cases hlj : j < L.length
    · obtain ⟨q1, q2, q3, q4, q5, q6⟩ := hmem j hlj
      have c62j := c62 g hg hs m hm L[j].1 L[j].2.1 (by omega) (by omega)
      have al := allowE_bd hg hm L[j].1 L[j].2.1
      have p1 : L[j].1 < l2.length := by omega
      have p2 : L[j].2.1 < l2.length := by omega
      have r1 := hM2.rng L[j].1 p1
      have r2 := hM2.rng L[j].2.1 p2
      have e1 : lv l2 L[j].1 = l2[L[j].1] := lv_get p1
      have e2 : lv l2 L[j].2.1 = l2[L[j].2.1] := lv_get p2
      have r1' : -20000 ≤ l2[L[j].1] ∧ l2[L[j].1] ≤ 30000 := by rw [e1] at r1; omega
      have r2' : -20000 ≤ l2[L[j].2.1] ∧ l2[L[j].2.1] ≤ 30000 := by rw [e2] at r2; omega
      repeat' first
           | (with_reducible apply go_op)
           | (with_reducible apply go_next)
           | ((with_reducible (show evOp _ _ _ _ _ _)); first
             | ((with_reducible (show evOp _ (.move _) _ _ _ _)) ; first | ((with_reducible apply go_mv_int); rfl; rfl) | ((with_reducible apply go_mv_os); rfl; rfl))
             | ((with_reducible (show evOp _ (.load _ _) _ _ _ _)) ; first | ((with_reducible apply go_load_om); rfl; rfl; rfl; rfl; rotate_left; assumption) | ((with_reducible apply go_ld_agg); rfl; rfl; rfl; rfl) | ((with_reducible apply go_load_own); rfl; rfl; rfl; rfl))
             | (((with_reducible apply go_fieldAddr_own); rfl; rfl; rfl))
             | (((with_reducible apply go_index_om); rfl; rfl; rfl; (with_reducible rfl); rfl; rfl; omega; (intro hlt)))
             | ((with_reducible (show evOp _ (.binOp _ _ _ _ _) _ _ _ _)) ; first | ((with_reducible apply go_cmp); rfl; rfl; rfl; rfl) | ((with_reducible apply go_add); rfl; rfl; rfl; omega))
             | ((with_reducible (show evOp _ (.call _) _ _ _ _)) ; first | ((with_reducible apply go_len_own); rfl; rfl; rfl) | ((with_reducible apply go_min); rfl; rfl; rfl) | ((with_reducible apply go_fn_int); rfl; (exact c62j); rfl)))
           | ((with_reducible (show evOps _ _ _ _ _ _)); first
             | (with_reducible apply go_nil)
             | ((with_reducible apply go_pre); rfl)
             | ((with_reducible apply go_pre_stop); rfl)
             | ((with_reducible apply go_suf); rfl)
             | ((with_reducible apply go_suf_stop); rfl))
           | ((with_reducible (show ev _ _ _ _)); first
             | (with_reducible apply go_seq)
             | (with_reducible apply go_region)
             | (((with_reducible apply go_cond); rfl) <;> (intro h; simp only [h]; try simp only [decide_eq_true_eq, decide_eq_false_iff_not, Bool.not_eq_true', Bool.not_eq_false', Bool.not_true, Bool.not_false] at h; try exact absurd trivial h))
             | ((with_reducible apply go_order); kernel_rfl; rfl)
             | (with_reducible apply go_skipc)
             | (with_reducible apply go_block)
             | (with_reducible apply go_exit))
           | (with_reducible apply go_kseq)
           | (with_reducible apply go_ksuf)
           | (with_reducible apply go_kblock)
           | (with_reducible apply go_kblock_exit)
           | (with_reducible apply go_kseq_exit)
      all_goals try exact absurd hlj (by omega)
      have hk1 : lv l2 L[j].1 ≠ 30000 := fun e => q4 ((hM.below.2 _ (by omega)).1.2 ((hM2.below.2 _ (by omega)).1.1 e))
      have hk2 : lv l2 L[j].2.1 ≠ 30000 := fun e => q5 ((hM.below.2 _ (by omega)).1.2 ((hM2.below.2 _ (by omega)).1.1 e))
      have hc : (netE g m).d L[j].2.1 L[j].1 = allowE g m L[j].1 L[j].2.1 := allowE_comm g m _ _
      have ht := hM2.try (.inl rfl) hN p2 p1 (hN.sym _ _ q3) hk2 hk1 (v := min l2[L[j].1] (l2[L[j].2.1] + allowE g m L[j].1 L[j].2.1)) (by rw [e1, e2, hc]; split <;> omega)
      rw [e1, e2, hc] at ht
      refine go_store_om (f := encInt) (l := l2) (a := min l2[L[j].1] (l2[L[j].2.1] + allowE g m L[j].1 L[j].2.1)) rfl rfl rfl p1 rfl rfl rfl rfl (Nat.le_refl _) rfl ?_
      repeat' first
           | (with_reducible apply go_op)
           | (with_reducible apply go_next)
           | ((with_reducible (show evOp _ _ _ _ _ _)); first
             | (((with_reducible apply go_mv_int); rfl; rfl))
             | ((with_reducible apply go_as))
             | (((with_reducible apply go_add); rfl; rfl; rfl; omega)))
           | ((with_reducible (show evOps _ _ _ _ _ _)); first
             | (with_reducible apply go_nil))
           | ((with_reducible (show ev _ _ _ _)); first
             | (with_reducible apply go_region))
           | (with_reducible apply go_kseq)
           | (with_reducible apply go_kblock)
      refine ⟨(l2.set L[j].1 (min l2[L[j].1] (l2[L[j].2.1] + allowE g m L[j].1 L[j].2.1)), j + 1), by show L.length - (j + 1) < L.length - j; omega, ⟨by show j + 1 ≤ L.length; omega, ht.1, fun h => absurd h (by simp), fun _ => ?_⟩, ?_⟩
      · by_cases hj0 : j = 0
        · have ez := hz hj0
          subst ez
          refine ht.2.2 ?_
          rw [e1, e2] at q6
          omega
        · exact Nat.lt_of_le_of_lt ht.2.1 (hp (by omega))
      · exact entails_eq (nx := 32) (k := 1) (ns := []) (ks := [7, 6, 5, 4, 3, 2]) [(5, 5), (0, 0), (1, 1), (2, 2), (3, 3), (4, 4)] rfl (by simp) (by kernel_rfl)
    · repeat' first
           | (with_reducible apply go_op)
           | (with_reducible apply go_next)
           | ((with_reducible (show evOp _ _ _ _ _ _)); first
             | ((with_reducible (show evOp _ (.move _) _ _ _ _)) ; first | ((with_reducible apply go_mv_int); rfl; rfl) | ((with_reducible apply go_mv_os); rfl; rfl))
             | ((with_reducible (show evOp _ (.load _ _) _ _ _ _)) ; first | ((with_reducible apply go_load_om); rfl; rfl; rfl; rfl; rotate_left; assumption) | ((with_reducible apply go_ld_agg); rfl; rfl; rfl; rfl) | ((with_reducible apply go_load_own); rfl; rfl; rfl; rfl))
             | (((with_reducible apply go_fieldAddr_own); rfl; rfl; rfl))
             | (((with_reducible apply go_index_om); rfl; rfl; rfl; (with_reducible rfl); rfl; rfl; omega; (intro hlt)))
             | (((with_reducible apply go_cmp); rfl; rfl; rfl; rfl))
             | (((with_reducible apply go_len_own); rfl; rfl; rfl)))
           | ((with_reducible (show evOps _ _ _ _ _ _)); first
             | (with_reducible apply go_nil)
             | ((with_reducible apply go_pre); rfl))
           | ((with_reducible (show ev _ _ _ _)); first
             | (with_reducible apply go_seq)
             | (with_reducible apply go_region)
             | (((with_reducible apply go_cond); rfl) <;> (intro h; simp only [h]; try simp only [decide_eq_true_eq, decide_eq_false_iff_not, Bool.not_eq_true', Bool.not_eq_false', Bool.not_true, Bool.not_false] at h; try exact absurd trivial h))
             | ((with_reducible apply go_order); kernel_rfl; rfl)
             | (with_reducible apply go_skipc)
             | (with_reducible apply go_block)
             | (with_reducible apply go_exit))
           | (with_reducible apply go_kseq)
           | (with_reducible apply go_kblock)
           | (with_reducible apply go_kblock_exit)
           | (with_reducible apply go_kseq_exit)
      all_goals try exact absurd hlj (by omega)
      have hj0 : 0 < j := by omega
      exact ⟨l2, hp hj0, hM2, entails_eq (nx := 32) (k := 1) (ns := []) (ks := [5, 4, 3, 2]) [(0, 0), (1, 1), (2, 2), (3, 3), (4, 4)] rfl (by simp) (by kernel_rfl)⟩
end Go.Pv.Soil

open Go Go.Proofs Go.Pv
set_option maxHeartbeats 4000000
set_option maxRecDepth 100000
set_option linter.unusedSimpArgs false
set_option linter.unusedVariables false
namespace Go.Pv.Soil

theorem c31 (g : Ground) (hg : OkG g) (hs : g.soils.length < 1000000000000) (m : Grid) (hm : OkGrid m) : Contract Try.prog 31 [.agg (encGround g), .agg (encGrid m)] (.ret (.agg (encG5 m ++ [.fr 1 ((slumpE g m 1).map encInt)]))) := by
  have hsm := hm.small
  have hN := netE_ok hg hm m.levels.length
  refine contract_of mix Try.func31 rfl rfl (by rw [Try.ntmps31]; exact Nat.le_of_ble_eq_true rfl) ?_; rw [Try.results31, Try.ntmps31]; simp only [argsE, Nat.reduceAdd]
  repeat' first
           | (with_reducible apply go_op)
           | (with_reducible apply go_next)
           | ((with_reducible (show evOp _ _ _ _ _ _)); first
             | (((with_reducible apply go_ld_agg); rfl; rfl; rfl; rfl))
             | (((with_reducible apply (go_fn_agf (cs := encG5 m))); rfl; (exact c91 m (by omega)); (exact scalInt); rfl; rfl; rfl; rfl; rfl))
             | (((with_reducible apply go_st_agg); rfl; rfl; rfl; rfl; rfl; rfl; rfl))
             | (((with_reducible apply go_bx_agg); rfl; rfl; (exact Nat.le_of_ble_eq_true rfl); rfl; rfl))
             | (((with_reducible apply go_alloc); rfl; rfl; rfl)))
           | ((with_reducible (show evOps _ _ _ _ _ _)); first
             | (with_reducible apply go_nil))
           | ((with_reducible (show ev _ _ _ _)); first
             | (with_reducible apply go_seq)
             | (with_reducible apply go_region)
             | (with_reducible apply go_block))
           | (with_reducible apply go_kseq)
  refine go_while (σ := List Int) (left 1) (fun l => ⟨[(5, .op 3 0 0), (4, .op 2 0 0), (3, .op 1 0 0), (2, .op 0 0 0)], [(0, ⟨2, true, [encGround g]⟩), (1, ⟨6, true, [encGrid m]⟩), (2, ⟨6, false, [[.int .i64 0, .int .i64 0, .int .i64 0, .int .i64 0, .int .i64 0, .nilsl]]⟩), (3, ⟨6, false, [encG5 m ++ [.os 4 0 m.levels.length]]⟩), (4, ⟨1, true, l.map encInt⟩)], 32, 64⟩) (fun l => Mid (netE g m) 1 m.levels l) m.levels
    (entails_eq (nx := 32) (k := 1) (ns := []) (ks := [5, 4, 3, 2]) [(0, 0), (32, 1), (64, 2), (160, 3), (133, 4)] rfl (by simp) (by kernel_rfl)) (Mid.start hm.rng) ?_
  intro l hM
  have hll := hM.below.1
  have hokl := hm.withL hll hM.rng
  have h59 : Contract Try.prog 59 [.agg (encGround g), .agg (encGrid (gridL m l))] (.ret (.fr 3 ((steepL g (gridL m l) l.length).map encSteep))) := c59 g hg hs (gridL m l) hokl
  have hmem := fun s hs => steepL_mem (g := g) (m := gridL m l) (n := l.length) (s := s) (Nat.le_refl _) hs
  have hnil : steepL g (gridL m l) l.length = [] ↔ Stable (netE g m) l := steepL_nil g (gridL m l)
  have hLl : (steepL g (gridL m l) l.length).length ≤ l.length * l.length := steepL_len g (gridL m l) l.length
  have hmul := Nat.mul_le_mul (show l.length ≤ 1024 by omega) (show l.length ≤ 1024 by omega)
  obtain ⟨L, hL⟩ := steep_nums (l := steepL g (gridL m l) l.length) (fun s hs => by obtain ⟨i, k, h1, h2, _⟩ := hmem s hs; exact ⟨i, k, h1, h2⟩)
  rw [hL] at h59 hmem hnil hLl
  rw [List.map_map] at h59
  rw [List.length_map] at hLl
  have h59 : Contract Try.prog 59 [.agg (encGround g), .agg (encGrid (gridL m l))] (.ret (.fr 3 (L.map encS))) := h59
  have hmem : ∀ j (hj : j < L.length), L[j].1 < l.length ∧ L[j].2.1 < l.length ∧ besideE m L[j].1 L[j].2.1 = true ∧ lv l L[j].1 ≠ 30000 ∧ lv l L[j].2.1 ≠ 30000 ∧ allowE g m L[j].1 L[j].2.1 < lv l L[j].1 - lv l L[j].2.1 := fun j hj => by
    obtain ⟨i, k, h1, h2, h3⟩ := hmem (mkS L[j]) (List.mem_map_of_mem (List.getElem_mem hj))
    simp only [mkS] at h1 h2
    have h1 : L[j].1 = i := by omega
    have h2 : L[j].2.1 = k := by omega
    rw [h1, h2]
    exact h3
  repeat' first
           | (with_reducible apply go_op)
           | (with_reducible apply go_next)
           | ((with_reducible (show evOp _ _ _ _ _ _)); first
             | ((with_reducible (show evOp _ (.move _) _ _ _ _)) ; first | ((with_reducible apply go_mv_int); rfl; rfl) | ((with_reducible apply go_mv_os); rfl; rfl))
             | ((with_reducible apply go_as))
             | (((with_reducible apply go_ld_agg); rfl; rfl; rfl; rfl))
             | (((with_reducible apply go_cmp); rfl; rfl; rfl; rfl))
             | ((with_reducible (show evOp _ (.call _) _ _ _ _)) ; first | ((with_reducible apply go_len_own); rfl; rfl; rfl) | ((with_reducible apply go_fn_fr); (exact purL_agf2 (cs := encG5 m) rfl rfl (by simp; try assumption) rfl rfl rfl); (exact h59); (exact scalS); rfl))
             | (((with_reducible apply go_st_agg); rfl; rfl; rfl; rfl; rfl; rfl; rfl)))
           | ((with_reducible (show evOps _ _ _ _ _ _)); first
             | (with_reducible apply go_nil))
           | ((with_reducible (show ev _ _ _ _)); first
             | (with_reducible apply go_seq)
             | (with_reducible apply go_region)
             | (((with_reducible apply go_cond); rfl) <;> (intro h; simp only [h]; try simp only [decide_eq_true_eq, decide_eq_false_iff_not, Bool.not_eq_true', Bool.not_eq_false', Bool.not_true, Bool.not_false] at h; try exact absurd trivial h))
             | (with_reducible apply go_ret)
             | (with_reducible apply go_skipc)
             | (with_reducible apply go_block))
           | (with_reducible apply go_kseq)
           | (with_reducible apply go_kseq_ret)
           | (with_reducible apply go_kblock_ret)
  · have e : L = [] := List.length_eq_zero_iff.1 (by omega)
    have hst : Stable (netE g m) l := hnil.1 (by rw [e]; rfl)
    rw [← slumpE_eq hg hm (.inr rfl) (hM.done hst)]
    exact finK_ret (fin_agf (cs := encG5 m) (len := m.levels.length) rfl rfl (by simp; assumption) rfl)
  · refine go_while (σ := List Int × Nat) (fun x => L.length - x.2) (fun x => ⟨[(7, .int .i64 x.2), (6, .os 5 0 L.length), (5, .op 3 0 0), (4, .op 2 0 0), (3, .op 1 0 0), (2, .op 0 0 0)], [(5, ⟨3, true, L.map encS⟩), (0, ⟨2, true, [encGround g]⟩), (1, ⟨6, true, [encGrid m]⟩), (2, ⟨6, false, [[.int .i64 0, .int .i64 0, .int .i64 0, .int .i64 0, .int .i64 0, .nilsl]]⟩), (3, ⟨6, false, [encG5 m ++ [.os 4 0 m.levels.length]]⟩), (4, ⟨1, true, x.1.map encInt⟩)], 32, 64⟩)
      (fun x => x.2 ≤ L.length ∧ Mid (netE g m) 1 m.levels x.1 ∧ (x.2 = 0 → x.1 = l) ∧ (0 < x.2 → left 1 x.1 < left 1 l)) (l, 0)
      (entails_eq (nx := 32) (k := 1) (ns := []) (ks := [7, 6, 5, 4, 3, 2]) [(96, 5), (0, 0), (1, 1), (2, 2), (3, 3), (4, 4)] rfl (by simp) (by kernel_rfl)) ⟨Nat.zero_le _, hM, fun _ => rfl, fun h => absurd h (by simp)⟩ ?_
    rintro ⟨l2, j⟩ ⟨hj, hM2, hz, hp⟩
    simp only at hj hM2 hz hp ⊢
    have hll2 := hM2.below.1
    by_cases hlj : j < L.length
    · obtain ⟨q1, q2, q3, q4, q5, q6⟩ := hmem j hlj
      have c62j := c62 g hg hs m hm L[j].1 L[j].2.1 (by omega) (by omega)
      have al := allowE_bd hg hm L[j].1 L[j].2.1
      have p1 : L[j].1 < l2.length := by omega
      have p2 : L[j].2.1 < l2.length := by omega
      have r1 := hM2.rng L[j].1 p1
      have r2 := hM2.rng L[j].2.1 p2
      have e1 : lv l2 L[j].1 = l2[L[j].1] := lv_get p1
      have e2 : lv l2 L[j].2.1 = l2[L[j].2.1] := lv_get p2
      have r1' : -20000 ≤ l2[L[j].1] ∧ l2[L[j].1] ≤ 30000 := by rw [e1] at r1; omega
      have r2' : -20000 ≤ l2[L[j].2.1] ∧ l2[L[j].2.1] ≤ 30000 := by rw [e2] at r2; omega
      repeat' first
           | (with_reducible apply go_op)
           | (with_reducible apply go_next)
           | ((with_reducible (show evOp _ _ _ _ _ _)); first
             | ((with_reducible (show evOp _ (.move _) _ _ _ _)) ; first | ((with_reducible apply go_mv_int); rfl; rfl) | ((with_reducible apply go_mv_os); rfl; rfl))
             | ((with_reducible (show evOp _ (.load _ _) _ _ _ _)) ; first | ((with_reducible apply go_load_om); rfl; rfl; rfl; rfl; rotate_left; assumption) | ((with_reducible apply go_ld_agg); rfl; rfl; rfl; rfl) | ((with_reducible apply go_load_own); rfl; rfl; rfl; rfl))
             | (((with_reducible apply go_fieldAddr_own); rfl; rfl; rfl))
             | (((with_reducible apply go_index_om); rfl; rfl; rfl; (with_reducible rfl); rfl; rfl; omega; (intro hlt)))
             | ((with_reducible (show evOp _ (.binOp _ _ _ _ _) _ _ _ _)) ; first | ((with_reducible apply go_cmp); rfl; rfl; rfl; rfl) | ((with_reducible apply go_sub); rfl; rfl; rfl; omega))
             | ((with_reducible (show evOp _ (.call _) _ _ _ _)) ; first | ((with_reducible apply go_len_own); rfl; rfl; rfl) | ((with_reducible apply go_max); rfl; rfl; rfl) | ((with_reducible apply go_fn_int); rfl; (exact c62j); rfl)))
           | ((with_reducible (show evOps _ _ _ _ _ _)); first
             | (with_reducible apply go_nil)
             | ((with_reducible apply go_pre); rfl)
             | ((with_reducible apply go_pre_stop); rfl)
             | ((with_reducible apply go_suf); rfl)
             | ((with_reducible apply go_suf_stop); rfl))
           | ((with_reducible (show ev _ _ _ _)); first
             | (with_reducible apply go_seq)
             | (with_reducible apply go_region)
             | (((with_reducible apply go_cond); rfl) <;> (intro h; simp only [h]; try simp only [decide_eq_true_eq, decide_eq_false_iff_not, Bool.not_eq_true', Bool.not_eq_false', Bool.not_true, Bool.not_false] at h; try exact absurd trivial h))
             | ((with_reducible apply go_order); kernel_rfl; rfl)
             | (with_reducible apply go_skipc)
             | (with_reducible apply go_block)
             | (with_reducible apply go_exit))
           | (with_reducible apply go_kseq)
           | (with_reducible apply go_ksuf)
           | (with_reducible apply go_kblock)
           | (with_reducible apply go_kblock_exit)
           | (with_reducible apply go_kseq_exit)
      all_goals try exact absurd hlj (by omega)
      have hk1 : lv l2 L[j].1 ≠ 30000 := fun e => q4 ((hM.below.2 _ (by omega)).1.2 ((hM2.below.2 _ (by omega)).1.1 e))
      have hk2 : lv l2 L[j].2.1 ≠ 30000 := fun e => q5 ((hM.below.2 _ (by omega)).1.2 ((hM2.below.2 _ (by omega)).1.1 e))
      have ht := hM2.try (.inr rfl) hN p1 p2 q3 hk1 hk2 (v := max l2[L[j].2.1] (l2[L[j].1] - allowE g m L[j].1 L[j].2.1)) (by rw [e1, e2]; show _ = if 0 < (l2[L[j].1] - 1 * allowE g m L[j].1 L[j].2.1 - l2[L[j].2.1]) * 1 then l2[L[j].1] - 1 * allowE g m L[j].1 L[j].2.1 else l2[L[j].2.1]; split <;> omega)
      rw [e1, e2] at ht
      have ht2 : 0 < (l2[L[j].1] - 1 * allowE g m L[j].1 L[j].2.1 - l2[L[j].2.1]) * 1 → left 1 (l2.set L[j].2.1 (max l2[L[j].2.1] (l2[L[j].1] - allowE g m L[j].1 L[j].2.1))) < left 1 l2 := ht.2.2
      refine go_store_om (f := encInt) (l := l2) (a := max l2[L[j].2.1] (l2[L[j].1] - allowE g m L[j].1 L[j].2.1)) rfl rfl rfl p2 rfl rfl rfl rfl (Nat.le_refl _) rfl ?_
      repeat' first
           | (with_reducible apply go_op)
           | (with_reducible apply go_next)
           | ((with_reducible (show evOp _ _ _ _ _ _)); first
             | (((with_reducible apply go_mv_int); rfl; rfl))
             | ((with_reducible apply go_as))
             | (((with_reducible apply go_add); rfl; rfl; rfl; omega)))
           | ((with_reducible (show evOps _ _ _ _ _ _)); first
             | (with_reducible apply go_nil))
           | ((with_reducible (show ev _ _ _ _)); first
             | (with_reducible apply go_region))
           | (with_reducible apply go_kseq)
           | (with_reducible apply go_kblock)
      refine ⟨(l2.set L[j].2.1 (max l2[L[j].2.1] (l2[L[j].1] - allowE g m L[j].1 L[j].2.1)), j + 1), by show L.length - (j + 1) < L.length - j; omega, ⟨by show j + 1 ≤ L.length; omega, ht.1, fun h => absurd h (by simp), fun _ => ?_⟩, ?_⟩
      · by_cases hj0 : j = 0
        · have ez := hz hj0
          subst ez
          refine ht2 ?_
          rw [e1, e2] at q6
          omega
        · exact Nat.lt_of_le_of_lt ht.2.1 (hp (by omega))
      · exact entails_eq (nx := 32) (k := 1) (ns := []) (ks := [7, 6, 5, 4, 3, 2]) [(5, 5), (0, 0), (1, 1), (2, 2), (3, 3), (4, 4)] rfl (by simp) (by kernel_rfl)
    · repeat' first
           | (with_reducible apply go_op)
           | (with_reducible apply go_next)
           | ((with_reducible (show evOp _ _ _ _ _ _)); first
             | ((with_reducible (show evOp _ (.move _) _ _ _ _)) ; first | ((with_reducible apply go_mv_int); rfl; rfl) | ((with_reducible apply go_mv_os); rfl; rfl))
             | ((with_reducible (show evOp _ (.load _ _) _ _ _ _)) ; first | ((with_reducible apply go_load_om); rfl; rfl; rfl; rfl; rotate_left; assumption) | ((with_reducible apply go_ld_agg); rfl; rfl; rfl; rfl) | ((with_reducible apply go_load_own); rfl; rfl; rfl; rfl))
             | (((with_reducible apply go_fieldAddr_own); rfl; rfl; rfl))
             | (((with_reducible apply go_index_om); rfl; rfl; rfl; (with_reducible rfl); rfl; rfl; omega; (intro hlt)))
             | (((with_reducible apply go_cmp); rfl; rfl; rfl; rfl))
             | (((with_reducible apply go_len_own); rfl; rfl; rfl)))
           | ((with_reducible (show evOps _ _ _ _ _ _)); first
             | (with_reducible apply go_nil)
             | ((with_reducible apply go_pre); rfl))
           | ((with_reducible (show ev _ _ _ _)); first
             | (with_reducible apply go_seq)
             | (with_reducible apply go_region)
             | (((with_reducible apply go_cond); rfl) <;> (intro h; simp only [h]; try simp only [decide_eq_true_eq, decide_eq_false_iff_not, Bool.not_eq_true', Bool.not_eq_false', Bool.not_true, Bool.not_false] at h; try exact absurd trivial h))
             | ((with_reducible apply go_order); kernel_rfl; rfl)
             | (with_reducible apply go_skipc)
             | (with_reducible apply go_block)
             | (with_reducible apply go_exit))
           | (with_reducible apply go_kseq)
           | (with_reducible apply go_kblock)
           | (with_reducible apply go_kblock_exit)
           | (with_reducible apply go_kseq_exit)
      all_goals try exact absurd hlj (by omega)
      have hj0 : 0 < j := by omega
      exact ⟨l2, hp hj0, hM2, entails_eq (nx := 32) (k := 1) (ns := []) (ks := [5, 4, 3, 2]) [(0, 0), (1, 1), (2, 2), (3, 3), (4, 4)] rfl (by simp) (by kernel_rfl)⟩

/-- The volume between the first cells of two beds. -/
def fallN (b a : Grid) : Nat → Int
  | 0 => 0
  | n + 1 => fallN b a n + if lv b.levels n ≠ 30000 ∧ lv a.levels n ≠ 30000 then (lv b.levels n - lv a.levels n) * b.side * b.side else 0

theorem term_bd {d s : Int} (hd : -40000 ≤ d ∧ d ≤ 40000) (hs : 100 ≤ s ∧ s ≤ 10000) : (-400000000 ≤ d * s ∧ d * s ≤ 400000000) ∧ -4000000000000 ≤ d * s * s ∧ d * s * s ≤ 4000000000000 := by
  have key : ∀ x y M Y : Int, -M ≤ x ∧ x ≤ M → 0 ≤ y ∧ y ≤ Y → -(M * Y) ≤ x * y ∧ x * y ≤ M * Y := fun x y M Y hx hy => by
    have h1 : x * y ≤ M * y := Int.mul_le_mul_of_nonneg_right hx.2 hy.1
    have h2 : -M * y ≤ x * y := Int.mul_le_mul_of_nonneg_right hx.1 hy.1
    have h3 : M * y ≤ M * Y := Int.mul_le_mul_of_nonneg_left hy.2 (by omega)
    rw [Int.neg_mul] at h2
    omega
  have h1 := key d s 40000 10000 hd (by omega)
  have h2 := key (d * s) s 400000000 10000 (by omega) (by omega)
  omega
theorem fallN_bd {b a : Grid} (hb : OkGrid b) (ha : OkGrid a) (hl : a.levels.length = b.levels.length) : ∀ n, n ≤ b.levels.length → -(4000000000000 * (n : Int)) ≤ fallN b a n ∧ fallN b a n ≤ 4000000000000 * (n : Int)
  | 0, _ => ⟨Int.le_refl _, Int.le_refl _⟩
  | n + 1, h => by
    have ih := fallN_bd hb ha hl n (by omega)
    simp only [fallN]
    split
    · rename_i hk
      have r1 := hb.rng n (by omega) hk.1
      have r2 := ha.rng n (by omega) hk.2
      have := term_bd (d := lv b.levels n - lv a.levels n) (by omega) hb.bds.2.1
      omega
    · omega

theorem c33 (b a : Grid) (hb : OkGrid b) (ha : OkGrid a) (hl : a.levels.length = b.levels.length) : Contract Try.prog 33 [.agg (encGrid b), .agg (encGrid a)] (.ret (.int .i64 (fallN b a b.levels.length))) := by
  have hs := hb.small
  refine contract_of mix Try.func33 rfl rfl (by rw [Try.ntmps33]; exact Nat.le_of_ble_eq_true rfl) ?_; rw [Try.results33, Try.ntmps33]; simp only [argsE, Nat.reduceAdd]
  repeat' first
           | (with_reducible apply go_op)
           | (with_reducible apply go_next)
           | ((with_reducible (show evOp _ _ _ _ _ _)); first
             | (((with_reducible apply go_mv_int); rfl; rfl))
             | ((with_reducible apply go_as))
             | (((with_reducible apply go_bx_agg); rfl; rfl; (exact Nat.le_of_ble_eq_true rfl); rfl; rfl)))
           | ((with_reducible (show evOps _ _ _ _ _ _)); first
             | (with_reducible apply go_nil))
           | ((with_reducible (show ev _ _ _ _)); first
             | (with_reducible apply go_seq)
             | (with_reducible apply go_region)
             | (with_reducible apply go_block))
           | (with_reducible apply go_kseq)
  refine go_count (b.levels.length) (fun i => ⟨[(6, .int .i64 i), (5, .int .i64 (fallN b a i)), (2, .op 0 0 0), (3, .op 32 0 0)], [(0, ⟨6, true, [encGrid b]⟩), (32, ⟨6, true, [encGrid a]⟩)], 64, 42⟩) (fun i => True) (entails_eq (k := 0) (ns := []) (ks := [6, 5, 2, 3]) [(0, 0), (32, 32)] rfl (by simp) rfl) trivial ?_
  intro i hi _
  have hbd := fallN_bd hb ha hl i hi
  by_cases hlt : i < b.levels.length
  · have hla : i < a.levels.length := by omega
    have e1 : lv b.levels i = b.levels[i] := lv_get hlt
    have e2 : lv a.levels i = a.levels[i] := lv_get hla
    have hnx : fallN b a (i + 1) = fallN b a i + if lv b.levels i ≠ 30000 ∧ lv a.levels i ≠ 30000 then (lv b.levels i - lv a.levels i) * b.side * b.side else 0 := rfl
    have r1 := hb.rng i hlt
    have r2 := ha.rng i hla
    have c1 : Contract Try.prog 41 [.agg (encGrid b), .int .i64 i] (.ret (.bool (!decide (lv b.levels i = 30000)))) := c41L b (i : Int) (by omega) (by omega)
    have c2 : Contract Try.prog 41 [.agg (encGrid a), .int .i64 i] (.ret (.bool (!decide (lv a.levels i = 30000)))) := c41L a (i : Int) (by omega) (by omega)
    by_cases hk : lv b.levels i ≠ 30000 ∧ lv a.levels i ≠ 30000
    · have tb := term_bd (d := b.levels[i] - a.levels[i]) (s := b.side) (by rw [← e1, ← e2]; have := r1 hk.1; have := r2 hk.2; omega) hb.bds.2.1
      have r1' : -20000 ≤ b.levels[i] ∧ b.levels[i] ≤ 20000 := e1 ▸ r1 hk.1
      have r2' : -20000 ≤ a.levels[i] ∧ a.levels[i] ≤ 20000 := e2 ▸ r2 hk.2
      rw [if_pos hk, e1, e2] at hnx
      repeat' first
           | (with_reducible apply go_op)
           | (with_reducible apply go_next)
           | ((with_reducible (show evOp _ _ _ _ _ _)); first
             | ((with_reducible (show evOp _ (.move _) _ _ _ _)) ; first | ((with_reducible apply go_mv_int); rfl; rfl) | ((with_reducible apply go_mv_bool); rfl; rfl))
             | ((with_reducible apply go_as))
             | ((with_reducible (show evOp _ (.load _ _) _ _ _ _)) ; first | ((with_reducible apply go_ld_agg); rfl; rfl; rfl; rfl) | ((with_reducible apply go_load); rfl; rfl; rfl) | ((with_reducible apply go_load_own); rfl; rfl; rfl; rfl))
             | (((with_reducible apply go_fieldAddr_own); rfl; rfl; rfl))
             | (((with_reducible apply go_index_nat); rfl; rfl; (with_reducible rfl); (intro; rfl); rfl; omega; (intro hlt)))
             | ((with_reducible (show evOp _ (.binOp _ _ _ _ _) _ _ _ _)) ; first | ((with_reducible apply go_cmp); rfl; rfl; rfl; rfl) | ((with_reducible apply go_add); rfl; rfl; rfl; omega) | ((with_reducible apply go_sub); rfl; rfl; rfl; omega) | ((with_reducible apply go_mul); rfl; rfl; rfl; omega))
             | ((with_reducible (show evOp _ (.call _) _ _ _ _)) ; first | ((with_reducible apply go_len); rfl; rfl) | ((with_reducible apply go_fn_bool); rfl; (exact c1); rfl) | ((with_reducible apply go_fn_bool); rfl; (exact c2); rfl))
             | (((with_reducible apply go_pick); rfl; rfl; rfl)))
           | ((with_reducible (show evOps _ _ _ _ _ _)); first
             | (with_reducible apply go_nil)
             | ((with_reducible apply go_run); rfl; rfl)
             | ((with_reducible apply go_pass); rfl; rfl; rfl)
             | (((with_reducible apply go_guard); rfl) <;> (intro h; simp only [h, Bool.not_true, Bool.not_false]; (try with_reducible (refine ⟨rfl, ?_⟩)); try simp only [decide_eq_true_eq, decide_eq_false_iff_not, Bool.not_eq_true', Bool.not_eq_false', Bool.not_true, Bool.not_false] at h; try exact absurd trivial h))
             | (with_reducible apply go_take)
             | (with_reducible apply go_take0)
             | (with_reducible apply go_drop)
             | (with_reducible apply go_drop0))
           | ((with_reducible (show ev _ _ _ _)); first
             | (with_reducible apply go_seq)
             | (with_reducible apply go_region)
             | ((with_reducible apply go_cond_f); rfl; rfl)
             | (((with_reducible apply go_cond); rfl) <;> (intro h; simp only [h]; try simp only [decide_eq_true_eq, decide_eq_false_iff_not, Bool.not_eq_true', Bool.not_eq_false', Bool.not_true, Bool.not_false] at h; try exact absurd trivial h))
             | ((with_reducible apply (go_drawM 19)); decide +kernel; rfl)
             | (with_reducible apply go_ret)
             | (with_reducible apply go_skipc)
             | (with_reducible apply go_block)
             | (with_reducible apply go_exit))
           | (with_reducible apply go_kseq)
           | (with_reducible apply go_kblock)
           | (with_reducible apply go_kblock_exit)
           | (with_reducible apply go_kdrop)
           | (with_reducible apply go_kseq_exit)
           | ((with_reducible apply end_int); rfl)
      all_goals first
        | exact absurd hlt (by omega)
        | (refine ⟨‹i < b.levels.length›, trivial, ?_⟩; rw [hnx]; exact entails_eq (k := 0) (ns := []) (ks := [6, 5, 2, 3]) [(0, 0), (32, 32)] rfl (by simp) rfl)
        | (exfalso; omega)
        | trace_state
    · rw [if_neg hk, Int.add_zero] at hnx
      repeat' first
           | (with_reducible apply go_op)
           | (with_reducible apply go_next)
           | ((with_reducible (show evOp _ _ _ _ _ _)); first
             | ((with_reducible (show evOp _ (.move _) _ _ _ _)) ; first | ((with_reducible apply go_mv_int); rfl; rfl) | ((with_reducible apply go_mv_bool); rfl; rfl))
             | ((with_reducible apply go_as))
             | ((with_reducible (show evOp _ (.load _ _) _ _ _ _)) ; first | ((with_reducible apply go_ld_agg); rfl; rfl; rfl; rfl) | ((with_reducible apply go_load); rfl; rfl; rfl) | ((with_reducible apply go_load_own); rfl; rfl; rfl; rfl))
             | (((with_reducible apply go_fieldAddr_own); rfl; rfl; rfl))
             | (((with_reducible apply go_index_nat); rfl; rfl; (with_reducible rfl); (intro; rfl); rfl; omega; (intro hlt)))
             | ((with_reducible (show evOp _ (.binOp _ _ _ _ _) _ _ _ _)) ; first | ((with_reducible apply go_cmp); rfl; rfl; rfl; rfl) | ((with_reducible apply go_add); rfl; rfl; rfl; omega) | ((with_reducible apply go_sub); rfl; rfl; rfl; omega) | ((with_reducible apply go_mul); rfl; rfl; rfl; omega))
             | ((with_reducible (show evOp _ (.call _) _ _ _ _)) ; first | ((with_reducible apply go_len); rfl; rfl) | ((with_reducible apply go_fn_bool); rfl; (exact c1); rfl) | ((with_reducible apply go_fn_bool); rfl; (exact c2); rfl))
             | (((with_reducible apply go_pick); rfl; rfl; rfl)))
           | ((with_reducible (show evOps _ _ _ _ _ _)); first
             | (with_reducible apply go_nil)
             | ((with_reducible apply go_run); rfl; rfl)
             | ((with_reducible apply go_pass); rfl; rfl; rfl)
             | (((with_reducible apply go_guard); rfl) <;> (intro h; simp only [h, Bool.not_true, Bool.not_false]; (try with_reducible (refine ⟨rfl, ?_⟩)); try simp only [decide_eq_true_eq, decide_eq_false_iff_not, Bool.not_eq_true', Bool.not_eq_false', Bool.not_true, Bool.not_false] at h; try exact absurd trivial h))
             | (with_reducible apply go_take)
             | (with_reducible apply go_take0)
             | (with_reducible apply go_drop)
             | (with_reducible apply go_drop0))
           | ((with_reducible (show ev _ _ _ _)); first
             | (with_reducible apply go_seq)
             | (with_reducible apply go_region)
             | ((with_reducible apply go_cond_f); rfl; rfl)
             | (((with_reducible apply go_cond); rfl) <;> (intro h; simp only [h]; try simp only [decide_eq_true_eq, decide_eq_false_iff_not, Bool.not_eq_true', Bool.not_eq_false', Bool.not_true, Bool.not_false] at h; try exact absurd trivial h))
             | ((with_reducible apply (go_drawM 19)); decide +kernel; rfl)
             | (with_reducible apply go_ret)
             | (with_reducible apply go_skipc)
             | (with_reducible apply go_block)
             | (with_reducible apply go_exit))
           | (with_reducible apply go_kseq)
           | (with_reducible apply go_kblock)
           | (with_reducible apply go_kblock_exit)
           | (with_reducible apply go_kdrop)
           | (with_reducible apply go_kseq_exit)
           | ((with_reducible apply end_int); rfl)
      all_goals first
        | exact absurd hlt (by omega)
        | exact absurd (And.intro ‹¬lv b.levels i = 30000› ‹¬lv a.levels i = 30000›) hk
        | (refine ⟨‹i < b.levels.length›, trivial, ?_⟩; rw [hnx]; exact entails_eq (k := 0) (ns := []) (ks := [6, 5, 2, 3]) [(0, 0), (32, 32)] rfl (by simp) rfl)
        | trace_state
  · have e : i = b.levels.length := by omega
    subst e
    repeat' first
           | (with_reducible apply go_op)
           | (with_reducible apply go_next)
           | ((with_reducible (show evOp _ _ _ _ _ _)); first
             | (((with_reducible apply go_mv_int); rfl; rfl))
             | ((with_reducible apply go_as))
             | ((with_reducible (show evOp _ (.load _ _) _ _ _ _)) ; first | ((with_reducible apply go_ld_agg); rfl; rfl; rfl; rfl) | ((with_reducible apply go_load_own); rfl; rfl; rfl; rfl))
             | (((with_reducible apply go_fieldAddr_own); rfl; rfl; rfl))
             | (((with_reducible apply go_cmp); rfl; rfl; rfl; rfl))
             | (((with_reducible apply go_len); rfl; rfl)))
           | ((with_reducible (show evOps _ _ _ _ _ _)); first
             | (with_reducible apply go_nil))
           | ((with_reducible (show ev _ _ _ _)); first
             | (with_reducible apply go_seq)
             | (with_reducible apply go_region)
             | (((with_reducible apply go_cond); rfl) <;> (intro h; simp only [h]; try simp only [decide_eq_true_eq, decide_eq_false_iff_not, Bool.not_eq_true', Bool.not_eq_false', Bool.not_true, Bool.not_false] at h; try exact absurd trivial h))
             | (with_reducible apply go_ret)
             | (with_reducible apply go_skipc)
             | (with_reducible apply go_block)
             | (with_reducible apply go_exit))
           | (with_reducible apply go_kseq)
           | (with_reducible apply go_kblock_exit)
           | (with_reducible apply go_kseq_exit)
           | ((with_reducible apply end_int); rfl)
           | (with_reducible rfl)
    all_goals first | exact absurd hlt (by omega) | trace_state
theorem total_take (w : Int) (l : List Int) {n : Nat} (h : n < l.length) : total w (l.take (n + 1)) = total w (l.take n) + lv l n * w := by
  rw [List.take_succ_eq_append_getElem h, lv_get h]
  simp only [total, List.map_append, List.sum_append, List.map_cons, List.map_nil, List.sum_cons, List.sum_nil]
  omega
theorem fallN_eq {b a : Grid} (hl : a.levels.length = b.levels.length) (hk : ∀ i, i < b.levels.length → (lv a.levels i = 30000 ↔ lv b.levels i = 30000)) : ∀ n, n ≤ b.levels.length → fallN b a n = (total (-1) (a.levels.take n) - total (-1) (b.levels.take n)) * b.side * b.side
  | 0, _ => by simp [fallN, total]
  | n + 1, h => by
    have ih := fallN_eq hl hk n (by omega)
    have h1 := hk n (by omega)
    rw [total_take _ _ (by omega), total_take _ _ (by omega)]
    simp only [fallN, ih]
    have e : ∀ x y u v s : Int, (x + y * -1 - (u + v * -1)) * s * s = (x - u) * s * s + (v - y) * s * s := fun x y u v s => by
      rw [← Int.add_mul, ← Int.add_mul]; congr 2; omega
    rw [e]
    congr 1
    by_cases hu : lv b.levels n = 30000
    · rw [if_neg (by omega), hu, h1.2 hu]; simp
    · rw [if_pos (by omega)]
end Go.Pv.Soil

import Derived.Test.YtdedpndkohfgbaaProg
import Derived.Test.YtdedpndkohfgbaaSW
import Derived.Test.YtdedpndkohfgbaaSG2
import Derived.KernelRfl
/- Part of the proofs over Ytdedpndkohfgbaa: S53. -/
set_option linter.unusedVariables false
set_option linter.unusedSimpArgs false
set_option linter.unnecessarySimpa false
open Go Go.Proofs Go.Pv
set_option maxHeartbeats 8000000
set_option maxRecDepth 100000
set_option linter.unusedSimpArgs false
set_option linter.unusedVariables false
namespace Go.Pv.Soil

theorem good52 (g : Ground) (hsl : g.soils.length < 1000000000000) (hbl : g.borings.length < 1000000000000) (m a : Grid) (hl : m.levels.length < 1000000000000) (hla' : a.levels.length < 1000000000000) (hge : griddedE g [m, a] = 0) :
    Contract Try.prog 52 [.agg (encGround g), .agg (encGrid m), .agg (encGrid a)] (.ret (.tup [.fr 2 ((cellsS g m a m.levels.length).map encShare), .int .i64 0])) := by
  have h93 := c93 g hsl hbl [m, a] (by simp) (by intro x hx; simp at hx; rcases hx with rfl | rfl <;> assumption)
  rw [hge] at h93
  obtain ⟨h1, h2, h3, h4⟩ := gridded2 hge
  have hg := okG h1
  have hm := okGrid h2
  have ha := okGrid h3
  have hla := alike_len hm ha h4
  have hs := hm.small
  have h8 := soils_len hg
  refine contract_of mix Try.func52 rfl rfl (by rw [Try.ntmps52]; exact Nat.le_of_ble_eq_true rfl) ?_; rw [Try.results52, Try.ntmps52]; simp only [argsE, Nat.reduceAdd]
  repeat' first
           | (with_reducible apply go_op)
           | (with_reducible apply go_next)
           | ((with_reducible (show evOp _ _ _ _ _ _)); first
             | ((with_reducible (show evOp _ (.move _) _ _ _ _)) ; first | ((with_reducible apply go_mv_int); rfl; rfl) | ((with_reducible apply go_mv_nilsl); rfl; rfl))
             | ((with_reducible apply go_as))
             | ((with_reducible (show evOp _ (.load _ _) _ _ _ _)) ; first | ((with_reducible apply go_ld_agg); rfl; rfl; rfl; rfl) | ((with_reducible apply go_load_own); rfl; rfl; rfl; rfl))
             | (((with_reducible apply go_fieldAddr_own); rfl; rfl; rfl))
             | (((with_reducible apply go_cmp); rfl; rfl; rfl; rfl))
             | ((with_reducible (show evOp _ (.call _) _ _ _ _)) ; first | ((with_reducible apply go_len); rfl; rfl) | ((with_reducible apply go_fn_int); rfl; (exact h93); rfl))
             | (((with_reducible apply go_bx_agg); rfl; rfl; (exact Nat.le_of_ble_eq_true rfl); rfl; rfl))
             | (((with_reducible apply go_bs2_agg); rfl; rfl; rfl; rfl; rfl; rfl; rfl; rfl)))
           | ((with_reducible (show evOps _ _ _ _ _ _)); first
             | (with_reducible apply go_nil))
           | ((with_reducible (show ev _ _ _ _)); first
             | (with_reducible apply go_seq)
             | (with_reducible apply go_region)
             | ((with_reducible apply go_cond_f); rfl; rfl)
             | (with_reducible apply go_skipc)
             | (with_reducible apply go_block))
           | (with_reducible apply go_kseq)
  all_goals try exact absurd rfl ‹_›
  refine go_count g.soils.length (fun i => ⟨[(9, .os 3 0 (startN g i).length), (28, .int .i64 i), (27, .int .i64 g.soils.length), (26, .sl (g.soils.map encSoil)), (3, .op 0 0 0), (4, .op 1 0 0), (5, .op 2 0 0)], [(3, ⟨2, true, (startN g i).map encShare⟩), (0, ⟨2, true, [encGround g]⟩), (1, ⟨6, true, [encGrid m]⟩), (2, ⟨6, true, [encGrid a]⟩)], 32, 102⟩) (fun _ => True)
    (entails_eq (nx := 32) (k := 2) (ns := [(9, 3)]) (ks := [28, 27, 26, 3, 4, 5]) [(0, 0), (32, 1), (64, 2)] rfl (by simp; rfl) (by kernel_rfl)) trivial ?_
  intro i hi _
  by_cases hlt : i < g.soils.length
  · have hnl := startN_len g hi
    repeat' first
           | (with_reducible apply go_op)
           | (with_reducible apply go_next)
           | ((with_reducible (show evOp _ _ _ _ _ _)); first
             | ((with_reducible (show evOp _ (.move _) _ _ _ _)) ; first | ((with_reducible apply go_mv_int); rfl; rfl) | ((with_reducible apply go_mv_os); rfl; rfl))
             | ((with_reducible (show evOp _ (.load _ _) _ _ _ _)) ; first | ((with_reducible apply go_ld_ptr); rfl; rfl; rfl) | ((with_reducible apply go_load_own); rfl; rfl; rfl; rfl))
             | (((with_reducible apply go_fieldAddr_own); rfl; rfl; rfl))
             | (((with_reducible apply go_index_nat); rfl; rfl; (with_reducible rfl); (intro; rfl); rfl; omega; (intro hlt)))
             | (((with_reducible apply go_cmp); rfl; rfl; rfl; rfl))
             | (((with_reducible apply go_len); rfl; rfl))
             | (((with_reducible apply go_st_agg); rfl; rfl; rfl; rfl; rfl; rfl; rfl))
             | (((with_reducible apply go_build); rfl; rfl))
             | (((with_reducible apply go_alloc); rfl; rfl; rfl))
             | (((with_reducible apply go_bs1_agg); rfl; rfl; rfl; rfl; rfl; rfl)))
           | ((with_reducible (show evOps _ _ _ _ _ _)); first
             | (with_reducible apply go_nil))
           | ((with_reducible (show ev _ _ _ _)); first
             | (with_reducible apply go_seq)
             | (with_reducible apply go_region)
             | (((with_reducible apply go_cond); rfl) <;> (intro h; simp only [h]; try simp only [decide_eq_true_eq, decide_eq_false_iff_not, Bool.not_eq_true', Bool.not_eq_false', Bool.not_true, Bool.not_false] at h; try exact absurd trivial h))
             | (with_reducible apply go_skipc)
             | (with_reducible apply go_block)
             | (with_reducible apply go_exit))
           | (with_reducible apply go_kseq)
           | (with_reducible apply go_kblock_exit)
           | (with_reducible apply go_kseq_exit)
    all_goals try exact absurd hlt (by omega)
    refine go_app_map (f := encShare) (a := ⟨_, _⟩) (l := startN g i) scalShare rfl rfl rfl rfl rfl rfl (by kernel_rfl) (by kernel_rfl) (by omega) rfl ?_
    repeat' first
           | (with_reducible apply go_op)
           | (with_reducible apply go_next)
           | ((with_reducible (show evOp _ _ _ _ _ _)); first
             | ((with_reducible (show evOp _ (.move _) _ _ _ _)) ; first | ((with_reducible apply go_mv_int); rfl; rfl) | ((with_reducible apply go_mv_os); rfl; rfl))
             | ((with_reducible apply go_as))
             | (((with_reducible apply go_add); rfl; rfl; rfl; omega)))
           | ((with_reducible (show evOps _ _ _ _ _ _)); first
             | (with_reducible apply go_nil))
           | ((with_reducible (show ev _ _ _ _)); first
             | (with_reducible apply go_region))
           | (with_reducible apply go_kseq)
           | (with_reducible apply go_kblock)
    have e := startN_succ g hlt
    have el : (startN g i).length + 1 = (startN g (i + 1)).length := by rw [e]; simp
    rw [← e, el]
    exact ⟨hlt, trivial, entails_eq (nx := 32) (k := 1) (ns := []) (ks := [9, 28, 27, 26, 3, 4, 5]) [(3, 3), (0, 0), (1, 1), (2, 2)] rfl (by simp) (by kernel_rfl)⟩
  · have e : i = g.soils.length := by omega
    subst e
    repeat' first
           | (with_reducible apply go_op)
           | (with_reducible apply go_next)
           | ((with_reducible (show evOp _ _ _ _ _ _)); first
             | ((with_reducible (show evOp _ (.move _) _ _ _ _)) ; first | ((with_reducible apply go_mv_int); rfl; rfl) | ((with_reducible apply go_mv_os); rfl; rfl))
             | ((with_reducible (show evOp _ (.load _ _) _ _ _ _)) ; first | ((with_reducible apply go_ld_ptr); rfl; rfl; rfl) | ((with_reducible apply go_load_own); rfl; rfl; rfl; rfl))
             | (((with_reducible apply go_fieldAddr_own); rfl; rfl; rfl))
             | (((with_reducible apply go_index_nat); rfl; rfl; (with_reducible rfl); (intro; rfl); rfl; omega; (intro hlt)))
             | (((with_reducible apply go_cmp); rfl; rfl; rfl; rfl))
             | (((with_reducible apply go_len); rfl; rfl))
             | (((with_reducible apply go_st_agg); rfl; rfl; rfl; rfl; rfl; rfl; rfl))
             | (((with_reducible apply go_build); rfl; rfl))
             | (((with_reducible apply go_alloc); rfl; rfl; rfl))
             | (((with_reducible apply go_bs1_agg); rfl; rfl; rfl; rfl; rfl; rfl)))
           | ((with_reducible (show evOps _ _ _ _ _ _)); first
             | (with_reducible apply go_nil))
           | ((with_reducible (show ev _ _ _ _)); first
             | (with_reducible apply go_seq)
             | (with_reducible apply go_region)
             | (((with_reducible apply go_cond); rfl) <;> (intro h; simp only [h]; try simp only [decide_eq_true_eq, decide_eq_false_iff_not, Bool.not_eq_true', Bool.not_eq_false', Bool.not_true, Bool.not_false] at h; try exact absurd trivial h))
             | (with_reducible apply go_skipc)
             | (with_reducible apply go_block)
             | (with_reducible apply go_exit))
           | (with_reducible apply go_kseq)
           | (with_reducible apply go_kblock_exit)
           | (with_reducible apply go_kseq_exit)
    all_goals try exact absurd hlt (by omega)
    rw [startN_end g m a]
    refine go_count m.levels.length (fun i => ⟨[(42, .int .i64 i), (41, .int .i64 m.levels.length), (40, .sl (m.levels.map encInt)), (9, .os 3 0 (cellsS g m a i).length), (3, .op 0 0 0), (4, .op 1 0 0), (5, .op 2 0 0)], [(3, ⟨2, true, (cellsS g m a i).map encShare⟩), (0, ⟨2, true, [encGround g]⟩), (1, ⟨6, true, [encGrid m]⟩), (2, ⟨6, true, [encGrid a]⟩)], 32, 102⟩) (fun _ => True)
      (entails_eq (nx := 32) (k := 1) (ns := []) (ks := [42, 41, 40, 9, 3, 4, 5]) [(3, 3), (0, 0), (1, 1), (2, 2)] rfl (by simp) (by kernel_rfl)) trivial ?_
    intro i hi2 _
    by_cases hlt2 : i < m.levels.length
    · have hlia : i < a.levels.length := by omega
      have em := lv_get hlt2
      have ea := lv_get hlia
      have hcs := cellsS_len g m a i
      have hVB := cellsS_VB hg hm ha hla i hi2
      have c101i := c101 m hm i hlt2 h2
      have h97 := c97 g hg (centreE m i) m.levels[i] a.levels[i]
      have hnx : cellsS g m a (i + 1) = if lv m.levels i ≠ 30000 ∧ lv a.levels i ≠ 30000 then accP g m.side (cellsS g m a i) (colAt g m a i) (colAt g m a i).length else cellsS g m a i := rfl
      have hca : colAt g m a i = columnE g (centreE m i) m.levels[i] a.levels[i] := by unfold colAt; rw [em, ea]
      have hskip : (m.levels[i] = 30000 ∨ a.levels[i] = 30000 ∨ m.levels[i] ≤ a.levels[i]) → cellsS g m a (i + 1) = cellsS g m a i := fun h => by
        rw [hnx]
        split
        · rename_i hk
          rw [em, ea] at hk
          rw [hca, col_nil hg (by omega)]
          rfl
        · rfl
      rw [← hca] at h97
      have hreal : ¬ (m.levels[i] = 30000 ∨ a.levels[i] = 30000) → cellsS g m a (i + 1) = accP g m.side (cellsS g m a i) (colAt g m a i) (colAt g m a i).length := fun h => by
        rw [hnx, if_pos (by rw [em, ea]; omega)]
      have hcp' : ¬ (m.levels[i] = 30000 ∨ a.levels[i] = 30000) → ∀ q ∈ colAt g m a i, 0 ≤ q.top - q.bottom ∧ q.top - q.bottom ≤ 40000 := fun h => colAt_part hg hm ha hla hlt2 (by rw [em, ea]; omega)
      have hcq : ∀ q ∈ colAt g m a i, 0 ≤ ofName g.soils q.soil ∧ (ofName g.soils q.soil).toNat < g.soils.length := fun q hq => by
        have := col_part hg hq
        exact ⟨this.2.2.2.1, this.2.2.2.2⟩
      have hcl : (colAt g m a i).length ≤ 12 := col_len hg _ _ _
      repeat' first
           | (with_reducible apply go_op)
           | (with_reducible apply go_next)
           | ((with_reducible (show evOp _ _ _ _ _ _)); first
             | ((with_reducible (show evOp _ (.move _) _ _ _ _)) ; first | ((with_reducible apply go_mv_int); rfl; rfl) | ((with_reducible apply go_mv_bool); rfl; rfl) | ((with_reducible apply go_mv_os); rfl; rfl))
             | ((with_reducible apply go_as))
             | ((with_reducible (show evOp _ (.load _ _) _ _ _ _)) ; first | ((with_reducible apply go_ld_agg); rfl; rfl; rfl; rfl) | ((with_reducible apply go_load); rfl; rfl; rfl) | ((with_reducible apply go_load_own); rfl; rfl; rfl; rfl))
             | (((with_reducible apply go_fieldAddr_own); rfl; rfl; rfl))
             | (((with_reducible apply go_index_nat); rfl; rfl; (with_reducible rfl); (intro; rfl); rfl; omega; (intro hlt)))
             | ((with_reducible (show evOp _ (.binOp _ _ _ _ _) _ _ _ _)) ; first | ((with_reducible apply go_cmp); rfl; rfl; rfl; rfl) | ((with_reducible apply go_add); rfl; rfl; rfl; omega))
             | ((with_reducible (show evOp _ (.call _) _ _ _ _)) ; first | ((with_reducible apply go_len_own); rfl; rfl; rfl) | ((with_reducible apply go_fn_plain); rfl; (exact c101i); rfl; (exact Nat.le_of_ble_eq_true rfl); rfl) | ((with_reducible apply go_fn_fr); rfl; (exact h97); (exact scalPart); rfl))
             | (((with_reducible apply go_pick); rfl; rfl; rfl))
             | (((with_reducible apply go_bd1_agg); rfl; rfl; rfl; rfl)))
           | ((with_reducible (show evOps _ _ _ _ _ _)); first
             | (with_reducible apply go_nil)
             | ((with_reducible apply go_run); rfl; rfl)
             | ((with_reducible apply go_pass); rfl; rfl; rfl)
             | (((with_reducible apply go_guard); rfl) <;> (intro h; simp only [h, Bool.not_true, Bool.not_false]; (try with_reducible (refine ⟨rfl, ?_⟩)); try simp only [decide_eq_true_eq, decide_eq_false_iff_not, Bool.not_eq_true', Bool.not_eq_false', Bool.not_true, Bool.not_false] at h; try exact absurd trivial h))
             | ((with_reducible apply go_pre); rfl)
             | (with_reducible apply go_pre_nil)
             | ((with_reducible apply go_suf); rfl)
             | (with_reducible apply go_suf_nil))
           | ((with_reducible (show ev _ _ _ _)); first
             | (with_reducible apply go_seq)
             | (with_reducible apply go_region)
             | ((with_reducible apply go_cond_t); rfl; rfl)
             | (((with_reducible apply go_cond); rfl) <;> (intro h; simp only [h]; try simp only [decide_eq_true_eq, decide_eq_false_iff_not, Bool.not_eq_true', Bool.not_eq_false', Bool.not_true, Bool.not_false] at h; try exact absurd trivial h))
             | ((with_reducible apply go_order); kernel_rfl; rfl)
             | (with_reducible apply go_ret)
             | (with_reducible apply go_skipc)
             | (with_reducible apply go_block)
             | (with_reducible apply go_exit))
           | (with_reducible apply go_kseq)
           | (with_reducible apply go_ksuf)
           | (with_reducible apply go_kblock_exit)
           | (with_reducible apply go_kseq_exit)
      all_goals try exact absurd hlt2 (by omega)
      all_goals try (refine ⟨‹i < m.levels.length›, trivial, ?_⟩; rw [hskip (by omega)]; exact entails_eq (nx := 32) (k := 1) (ns := []) (ks := [42, 41, 40, 9, 3, 4, 5]) [(3, 3), (0, 0), (1, 1), (2, 2)] rfl (by simp) (by kernel_rfl))
      have hcp := hcp' (by omega)
      have hre := hreal (by omega)
      have hac := fun j => accP_len g m.side (cellsS g m a i) (colAt g m a i) j
      have hav := fun j => accP_VB (g := g) (C := colAt g m a i) hm.bds.2.1 hVB hcp j
      have has := fun {j} h => accP_succ g m.side (cellsS g m a i) (C := colAt g m a i) (j := j) h
      clear hca h97 hskip hreal hcp' hnx
      generalize colAt g m a i = C at *
      generalize cellsS g m a i = L at *
      refine go_count C.length (fun j => ⟨[(72, .int .i64 j), (71, .int .i64 C.length), (70, .os 4 0 C.length), (9, .os 3 0 L.length), (42, .int .i64 i), (41, .int .i64 m.levels.length), (40, .sl (m.levels.map encInt)), (3, .op 0 0 0), (4, .op 1 0 0), (5, .op 2 0 0)], [(4, ⟨3, true, C.map encPart⟩), (3, ⟨2, true, (accP g m.side L C j).map encShare⟩), (0, ⟨2, true, [encGround g]⟩), (1, ⟨6, true, [encGrid m]⟩), (2, ⟨6, true, [encGrid a]⟩)], 32, 102⟩) (fun _ => True)
        (entails_eq (nx := 32) (k := 1) (ns := []) (ks := [72, 71, 70, 9, 42, 41, 40, 3, 4, 5]) [(992, 4), (3, 3), (0, 0), (1, 1), (2, 2)] rfl (by simp) (by kernel_rfl)) trivial ?_
      intro j hj _
      by_cases hlj : j < C.length
      · have hq := hcq C[j] (List.getElem_mem hlj)
        have hd := hcp C[j] (List.getElem_mem hlj)
        have hv := vol_bd hd hm.bds.2.1
        have hv4 := hv.2.2.2
        obtain ⟨k, ek⟩ := Int.eq_ofNat_of_zero_le hq.1
        have hkk : (ofName g.soils C[j].soil).toNat = k := by omega
        have hacj := hac j
        have hkL : k < (accP g m.side L C j).length := by omega
        have hvk := hav j k hkL
        have hsj := has hlj
        rw [hkk, addS_at hkL, ← hv4] at hsj
        have h102 : Contract Try.prog 102 [.sl (g.soils.map encSoil), .str C[j].soil] (.ret (.int .i64 k)) := by
          have := c102 g.soils hsl C[j].soil
          rwa [ek] at this
        repeat' first
           | (with_reducible apply go_op)
           | (with_reducible apply go_next)
           | ((with_reducible (show evOp _ _ _ _ _ _)); first
             | ((with_reducible (show evOp _ (.move _) _ _ _ _)) ; first | ((with_reducible apply go_mv_int); rfl; rfl) | ((with_reducible apply go_mv_os); rfl; rfl))
             | ((with_reducible (show evOp _ (.load _ _) _ _ _ _)) ; first | ((with_reducible apply go_load_om); rfl; rfl; rfl; rfl; rotate_left; assumption) | ((with_reducible apply go_load_own); rfl; rfl; rfl; rfl))
             | (((with_reducible apply go_fieldAddr_own); rfl; rfl; rfl))
             | (((with_reducible apply go_index_om); rfl; rfl; rfl; (with_reducible rfl); rfl; rfl; omega; (intro hlt)))
             | ((with_reducible (show evOp _ (.binOp _ _ _ _ _) _ _ _ _)) ; first | ((with_reducible apply go_cmp); rfl; rfl; rfl; rfl) | ((with_reducible apply go_add); rfl; rfl; rfl; omega) | ((with_reducible apply go_sub); rfl; rfl; rfl; omega) | ((with_reducible apply go_mul); rfl; rfl; rfl; omega))
             | (((with_reducible apply go_fn_int); rfl; (exact h102); rfl))
             | (((with_reducible apply go_st_agg); rfl; rfl; rfl; rfl; rfl; rfl; rfl))
             | (((with_reducible apply go_alloc); rfl; rfl; rfl)))
           | ((with_reducible (show evOps _ _ _ _ _ _)); first
             | (with_reducible apply go_nil)
             | ((with_reducible apply go_pre); rfl)
             | ((with_reducible apply go_pre_stop); rfl)
             | ((with_reducible apply go_suf); rfl)
             | ((with_reducible apply go_suf_stop); rfl))
           | ((with_reducible (show ev _ _ _ _)); first
             | (with_reducible apply go_seq)
             | (with_reducible apply go_region)
             | (((with_reducible apply go_cond); rfl) <;> (intro h; simp only [h]; try simp only [decide_eq_true_eq, decide_eq_false_iff_not, Bool.not_eq_true', Bool.not_eq_false', Bool.not_true, Bool.not_false] at h; try exact absurd trivial h))
             | ((with_reducible apply go_order); kernel_rfl; rfl)
             | (with_reducible apply go_skipc)
             | (with_reducible apply go_block)
             | (with_reducible apply go_exit))
           | (with_reducible apply go_kseq)
           | (with_reducible apply go_ksuf)
           | (with_reducible apply go_kblock)
           | (with_reducible apply go_kblock_exit)
           | (with_reducible apply go_kseq_exit)
        all_goals try exact absurd hlj (by omega)
        all_goals try simp only [Nat.reduceAdd]
        refine go_store_om (f := encShare) (l := accP g m.side L C j) (a := ⟨(accP g m.side L C j)[k].soil, (accP g m.side L C j)[k].vol + m.side * m.side * (C[j].top - C[j].bottom)⟩) rfl rfl rfl hkL rfl rfl rfl rfl (Nat.le_of_ble_eq_true rfl) rfl ?_
        repeat' first
           | (with_reducible apply go_op)
           | (with_reducible apply go_next)
           | ((with_reducible (show evOp _ _ _ _ _ _)); first
             | (((with_reducible apply go_mv_int); rfl; rfl))
             | (((with_reducible apply go_add); rfl; rfl; rfl; omega)))
           | ((with_reducible (show evOps _ _ _ _ _ _)); first
             | (with_reducible apply go_nil))
           | ((with_reducible (show ev _ _ _ _)); first
             | (with_reducible apply go_region))
           | (with_reducible apply go_kseq)
           | (with_reducible apply go_kblock)
        refine ⟨‹j < C.length›, trivial, ?_⟩
        rw [hsj]
        exact entails_eq (nx := 32) (k := 1) (ns := []) (ks := [72, 71, 70, 9, 42, 41, 40, 3, 4, 5]) [(4, 4), (3, 3), (0, 0), (1, 1), (2, 2)] rfl (by simp) (by kernel_rfl)
      · have e : j = C.length := by omega
        repeat' first
           | (with_reducible apply go_op)
           | (with_reducible apply go_next)
           | ((with_reducible (show evOp _ _ _ _ _ _)); first
             | ((with_reducible (show evOp _ (.move _) _ _ _ _)) ; first | ((with_reducible apply go_mv_int); rfl; rfl) | ((with_reducible apply go_mv_os); rfl; rfl))
             | ((with_reducible (show evOp _ (.load _ _) _ _ _ _)) ; first | ((with_reducible apply go_load_om); rfl; rfl; rfl; rfl; rotate_left; assumption) | ((with_reducible apply go_load_own); rfl; rfl; rfl; rfl))
             | (((with_reducible apply go_fieldAddr_own); rfl; rfl; rfl))
             | (((with_reducible apply go_index_om); rfl; rfl; rfl; (with_reducible rfl); rfl; rfl; omega; (intro hlt)))
             | ((with_reducible (show evOp _ (.binOp _ _ _ _ _) _ _ _ _)) ; first | ((with_reducible apply go_cmp); rfl; rfl; rfl; rfl) | ((with_reducible apply go_add); rfl; rfl; rfl; omega))
             | (((with_reducible apply go_st_agg); rfl; rfl; rfl; rfl; rfl; rfl; rfl))
             | (((with_reducible apply go_alloc); rfl; rfl; rfl)))
           | ((with_reducible (show evOps _ _ _ _ _ _)); first
             | (with_reducible apply go_nil)
             | ((with_reducible apply go_pre); rfl))
           | ((with_reducible (show ev _ _ _ _)); first
             | (with_reducible apply go_seq)
             | (with_reducible apply go_region)
             | (((with_reducible apply go_cond); rfl) <;> (intro h; simp only [h]; try simp only [decide_eq_true_eq, decide_eq_false_iff_not, Bool.not_eq_true', Bool.not_eq_false', Bool.not_true, Bool.not_false] at h; try exact absurd trivial h))
             | ((with_reducible apply go_order); kernel_rfl; rfl)
             | (with_reducible apply go_skipc)
             | (with_reducible apply go_block)
             | (with_reducible apply go_exit))
           | (with_reducible apply go_kseq)
           | (with_reducible apply go_kblock)
           | (with_reducible apply go_kblock_exit)
           | (with_reducible apply go_kseq_exit)
        all_goals try exact absurd hlj (by omega)
        refine ⟨hlt2, trivial, ?_⟩
        rw [hre, ← e, hac j]
        exact entails_eq (nx := 32) (k := 1) (ns := []) (ks := [42, 41, 40, 9, 3, 4, 5]) [(3, 3), (0, 0), (1, 1), (2, 2)] rfl (by simp) (by kernel_rfl)
    · have e : i = m.levels.length := by omega
      repeat' first
           | (with_reducible apply go_op)
           | (with_reducible apply go_next)
           | ((with_reducible (show evOp _ _ _ _ _ _)); first
             | ((with_reducible (show evOp _ (.move _) _ _ _ _)) ; first | ((with_reducible apply go_mv_int); rfl; rfl) | ((with_reducible apply go_mv_bool); rfl; rfl) | ((with_reducible apply go_mv_os); rfl; rfl))
             | ((with_reducible apply go_as))
             | ((with_reducible (show evOp _ (.load _ _) _ _ _ _)) ; first | ((with_reducible apply go_ld_agg); rfl; rfl; rfl; rfl) | ((with_reducible apply go_load); rfl; rfl; rfl) | ((with_reducible apply go_load_own); rfl; rfl; rfl; rfl))
             | (((with_reducible apply go_fieldAddr_own); rfl; rfl; rfl))
             | (((with_reducible apply go_index_nat); rfl; rfl; (with_reducible rfl); (intro; rfl); rfl; omega; (intro hlt)))
             | ((with_reducible (show evOp _ (.binOp _ _ _ _ _) _ _ _ _)) ; first | ((with_reducible apply go_cmp); rfl; rfl; rfl; rfl) | ((with_reducible apply go_add); rfl; rfl; rfl; omega))
             | (((with_reducible apply go_pick); rfl; rfl; rfl))
             | (((with_reducible apply go_bd1_agg); rfl; rfl; rfl; rfl)))
           | ((with_reducible (show evOps _ _ _ _ _ _)); first
             | (with_reducible apply go_nil)
             | ((with_reducible apply go_run); rfl; rfl)
             | ((with_reducible apply go_pass); rfl; rfl; rfl)
             | (((with_reducible apply go_guard); rfl) <;> (intro h; simp only [h, Bool.not_true, Bool.not_false]; (try with_reducible (refine ⟨rfl, ?_⟩)); try simp only [decide_eq_true_eq, decide_eq_false_iff_not, Bool.not_eq_true', Bool.not_eq_false', Bool.not_true, Bool.not_false] at h; try exact absurd trivial h))
             | ((with_reducible apply go_pre); rfl))
           | ((with_reducible (show ev _ _ _ _)); first
             | (with_reducible apply go_seq)
             | (with_reducible apply go_region)
             | ((with_reducible apply go_cond_t); rfl; rfl)
             | (((with_reducible apply go_cond); rfl) <;> (intro h; simp only [h]; try simp only [decide_eq_true_eq, decide_eq_false_iff_not, Bool.not_eq_true', Bool.not_eq_false', Bool.not_true, Bool.not_false] at h; try exact absurd trivial h))
             | ((with_reducible apply go_order); kernel_rfl; rfl)
             | (with_reducible apply go_ret)
             | (with_reducible apply go_skipc)
             | (with_reducible apply go_block)
             | (with_reducible apply go_exit))
           | (with_reducible apply go_kseq)
           | (with_reducible apply go_kblock_exit)
           | (with_reducible apply go_kseq_exit)
      all_goals try exact absurd hlt2 (by omega)
      rw [← e]
      exact finK_ret (fin_fr2 rfl (by simp) rfl rfl rfl)

/-- The shares, or none. -/
def sharesR (g : Ground) (m a : Grid) : List Share := if griddedE g [m, a] = 0 then cellsS g m a m.levels.length else []
theorem c52 (g : Ground) (hsl : g.soils.length < 1000000000000) (hbl : g.borings.length < 1000000000000) (m a : Grid) (hl : m.levels.length < 1000000000000) (hla' : a.levels.length < 1000000000000) :
    Contract Try.prog 52 [.agg (encGround g), .agg (encGrid m), .agg (encGrid a)] (.ret (.tup [.fr 2 ((sharesR g m a).map encShare), .int .i64 (griddedE g [m, a])])) := by
  by_cases hge : griddedE g [m, a] = 0
  · rw [show sharesR g m a = cellsS g m a m.levels.length from if_pos hge, hge]
    exact good52 g hsl hbl m a hl hla' hge
  · rw [show sharesR g m a = [] from if_neg hge]
    have h93 := c93 g hsl hbl [m, a] (by simp) (by intro x hx; simp at hx; rcases hx with rfl | rfl <;> assumption)
    generalize griddedE g [m, a] = ge at *
    refine contract_of mix Try.func52 rfl rfl (by rw [Try.ntmps52]; exact Nat.le_of_ble_eq_true rfl) ?_; rw [Try.results52, Try.ntmps52]; simp only [argsE, Nat.reduceAdd]
    repeat' first
           | (with_reducible apply go_op)
           | (with_reducible apply go_next)
           | ((with_reducible (show evOp _ _ _ _ _ _)); first
             | ((with_reducible (show evOp _ (.move _) _ _ _ _)) ; first | ((with_reducible apply go_mv_int); rfl; rfl) | ((with_reducible apply go_mv_nilsl); rfl; rfl))
             | ((with_reducible apply go_as))
             | ((with_reducible (show evOp _ (.load _ _) _ _ _ _)) ; first | ((with_reducible apply go_ld_agg); rfl; rfl; rfl; rfl) | ((with_reducible apply go_load_own); rfl; rfl; rfl; rfl))
             | (((with_reducible apply go_fieldAddr_own); rfl; rfl; rfl))
             | (((with_reducible apply go_cmp); rfl; rfl; rfl; rfl))
             | ((with_reducible (show evOp _ (.call _) _ _ _ _)) ; first | ((with_reducible apply go_len); rfl; rfl) | ((with_reducible apply go_fn_int); rfl; (exact h93); rfl))
             | (((with_reducible apply go_bx_agg); rfl; rfl; (exact Nat.le_of_ble_eq_true rfl); rfl; rfl))
             | (((with_reducible apply go_bs2_agg); rfl; rfl; rfl; rfl; rfl; rfl; rfl; rfl)))
           | ((with_reducible (show evOps _ _ _ _ _ _)); first
             | (with_reducible apply go_nil))
           | ((with_reducible (show ev _ _ _ _)); first
             | (with_reducible apply go_seq)
             | (with_reducible apply go_region)
             | (((with_reducible apply go_cond); rfl) <;> (intro h; simp only [h]; try simp only [decide_eq_true_eq, decide_eq_false_iff_not, Bool.not_eq_true', Bool.not_eq_false', Bool.not_true, Bool.not_false] at h; try exact absurd trivial h))
             | (with_reducible apply go_ret)
             | (with_reducible apply go_skipc)
             | (with_reducible apply go_block))
           | (with_reducible apply go_kseq)
           | (with_reducible apply go_kseq_ret)
    all_goals first
      | exact finK_ret (fin_nil2 rfl rfl rfl)
      | exact absurd ‹ge = 0› hge
end Go.Pv.Soil

import Derived.Test.YtdedpndkohfgbaaProg
import Derived.Test.YtdedpndkohfgbaaSM
import Derived.KernelRfl
/- Part of the proofs over Ytdedpndkohfgbaa: S37. -/
set_option linter.unusedVariables false
set_option linter.unusedSimpArgs false
set_option linter.unnecessarySimpa false
open Go Go.Proofs Go.Pv
set_option maxHeartbeats 2000000
set_option maxRecDepth 100000
set_option linter.unusedSimpArgs false
set_option linter.unusedVariables false
namespace Go.Pv.Soil

theorem c59 (g : Ground) (hg : OkG g) (hsl : g.soils.length < 1000000000000) (a : Grid) (ha : OkGrid a) :
    Contract Try.prog 59 [.agg (encGround g), .agg (encGrid a)] (.ret (.fr 3 ((steepL g a a.levels.length).map encSteep))) := by
  have hs := ha.small
  refine contract_of mix Try.func59 rfl rfl (by rw [Try.ntmps59]; exact Nat.le_of_ble_eq_true rfl) ?_; rw [Try.results59, Try.ntmps59]; simp only [argsE, Nat.reduceAdd]
  repeat' first
           | (with_reducible apply go_op)
           | (with_reducible apply go_next)
           | ((with_reducible (show evOp _ _ _ _ _ _)); first
             | ((with_reducible (show evOp _ (.move _) _ _ _ _)) ; first | ((with_reducible apply go_mv_int); rfl; rfl) | ((with_reducible apply go_mv_nilsl); rfl; rfl))
             | ((with_reducible apply go_as))
             | (((with_reducible apply go_bx_agg); rfl; rfl; (exact Nat.le_of_ble_eq_true rfl); rfl; rfl)))
           | ((with_reducible (show evOps _ _ _ _ _ _)); first
             | (with_reducible apply go_nil))
           | ((with_reducible (show ev _ _ _ _)); first
             | (with_reducible apply go_seq)
             | (with_reducible apply go_region)
             | (with_reducible apply go_block))
           | (with_reducible apply go_kseq)
  refine go_count a.levels.length (fun i => ⟨[(5, .os 2 0 (steepL g a i).length), (6, .int .i64 i), (2, .op 0 0 0), (3, .op 1 0 0)], [(2, ⟨3, true, (steepL g a i).map encSteep⟩), (0, ⟨2, true, [encGround g]⟩), (1, ⟨6, true, [encGrid a]⟩)], 32, 96⟩) (fun _ => True)
    (entails_eq (nx := 32) (k := 3) (ns := [(5, 2)]) (ks := [6, 2, 3]) [(0, 0), (32, 1)] rfl (by simp; rfl) rfl) trivial ?_
  intro i hi _
  by_cases hlt : i < a.levels.length
  · have c107i := c107 a ha i hlt
    repeat' first
           | (with_reducible apply go_op)
           | (with_reducible apply go_next)
           | ((with_reducible (show evOp _ _ _ _ _ _)); first
             | ((with_reducible (show evOp _ (.move _) _ _ _ _)) ; first | ((with_reducible apply go_mv_int); rfl; rfl) | ((with_reducible apply go_mv_os); rfl; rfl))
             | ((with_reducible apply go_as))
             | ((with_reducible (show evOp _ (.load _ _) _ _ _ _)) ; first | ((with_reducible apply go_ld_agg); rfl; rfl; rfl; rfl) | ((with_reducible apply go_load_own); rfl; rfl; rfl; rfl))
             | (((with_reducible apply go_fieldAddr_own); rfl; rfl; rfl))
             | (((with_reducible apply go_cmp); rfl; rfl; rfl; rfl))
             | ((with_reducible (show evOp _ (.call _) _ _ _ _)) ; first | ((with_reducible apply go_len); rfl; rfl) | ((with_reducible apply go_fn_fr); rfl; (exact c107i); (exact scalInt); rfl)))
           | ((with_reducible (show evOps _ _ _ _ _ _)); first
             | (with_reducible apply go_nil))
           | ((with_reducible (show ev _ _ _ _)); first
             | (with_reducible apply go_seq)
             | (with_reducible apply go_region)
             | (((with_reducible apply go_cond); rfl) <;> (intro h; simp only [h]; try simp only [decide_eq_true_eq, decide_eq_false_iff_not, Bool.not_eq_true', Bool.not_eq_false', Bool.not_true, Bool.not_false] at h; try exact absurd trivial h))
             | (with_reducible apply go_ret)
             | (with_reducible apply go_skipc)
             | (with_reducible apply go_block)
             | (with_reducible apply go_exit))
           | (with_reducible apply go_kseq)
           | (with_reducible apply go_kblock_exit)
           | (with_reducible apply go_kseq_exit)
    · have hNm : ∀ j (hj : j < (nearL a i a.levels.length).length), 0 ≤ (nearL a i a.levels.length)[j] ∧ (nearL a i a.levels.length)[j] < a.levels.length := fun j hj => by
        obtain ⟨k, h1, h2, _⟩ := (nearL_mem a i _ _).1 (List.getElem_mem hj)
        omega
      have hNl := nearL_len a i a.levels.length
      have hend := steepAcc_end g a i
      have hAl := steepAcc_len g a (nearL a i a.levels.length) i
      have hsucc := fun j hj => steepAcc_succ g a (N := nearL a i a.levels.length) i (j := j) hj
      have hmul := Nat.mul_le_mul (show i ≤ 1024 by omega) hs
      generalize nearL a i a.levels.length = N at *
      refine go_count N.length (fun j => ⟨[(5, .os 2 0 (steepAcc g a N i j).length), (8, .int .i64 j), (7, .os 3 0 N.length), (6, .int .i64 i), (2, .op 0 0 0), (3, .op 1 0 0)], [(2, ⟨3, true, (steepAcc g a N i j).map encSteep⟩), (3, ⟨1, true, N.map encInt⟩), (0, ⟨2, true, [encGround g]⟩), (1, ⟨6, true, [encGrid a]⟩)], 32, 96⟩) (fun _ => True)
        (entails_eq (nx := 32) (k := 1) (ns := []) (ks := [5, 8, 7, 6, 2, 3]) [(2, 2), (256, 3), (0, 0), (1, 1)] rfl (by simp) (by kernel_rfl)) trivial ?_
      intro j hj _
      by_cases hlj : j < N.length
      · have hb := hNm j hlj
        have hl1 : (steepAcc g a N i j).length ≤ 1000000000 := by have := hAl j hj; omega
        have hnil : steepOf g a i N[j] = [] → steepAcc g a N i (j + 1) = steepAcc g a N i j := fun h => by rw [hsucc j hlj, h, List.append_nil]
        have hone : ∀ s, steepOf g a i N[j] = [s] → steepAcc g a N i (j + 1) = steepAcc g a N i j ++ [s] := fun s h => by rw [hsucc j hlj, h]
        have e1 := lv_get hlt
        have e2 : lv a.levels N[j].toNat = a.levels[N[j].toNat]'(by omega) := lv_get (by omega)
        have b1 : -20000 ≤ a.levels[i] ∧ a.levels[i] ≤ 30000 := by
          have := ha.rng i hlt
          omega
        have b2 : -20000 ≤ a.levels[N[j].toNat]'(by omega) ∧ a.levels[N[j].toNat]'(by omega) ≤ 30000 := by
          have := ha.rng N[j].toNat (by omega)
          omega
        have b3 := allowE_bd hg ha i N[j].toNat
        have c1 : Contract Try.prog 41 [.agg (encGrid a), .int .i64 i] (.ret (.bool (!decide (lv a.levels i = 30000)))) := c41L a (i : Int) (by omega) (by omega)
        have c2 := c41L a N[j] hb (by omega)
        have c3 : Contract Try.prog 62 [.agg (encGround g), .agg (encGrid a), .int .i64 i, .int .i64 N[j]] (.ret (.int .i64 (allowE g a i N[j].toNat))) := c62L g hg hsl a ha (i : Int) N[j] (by omega) (by omega)
        have c4 := c110 (a.levels[i] - a.levels[N[j].toNat]'(by omega)) (by omega)
        repeat' first
           | (with_reducible apply go_op)
           | (with_reducible apply go_next)
           | ((with_reducible (show evOp _ _ _ _ _ _)); first
             | ((with_reducible (show evOp _ (.move _) _ _ _ _)) ; first | ((with_reducible apply go_mv_int); rfl; rfl) | ((with_reducible apply go_mv_bool); rfl; rfl) | ((with_reducible apply go_mv_os); rfl; rfl))
             | ((with_reducible apply go_as))
             | ((with_reducible (show evOp _ (.load _ _) _ _ _ _)) ; first | ((with_reducible apply go_load_om); rfl; rfl; rfl; rfl; rotate_left; assumption) | ((with_reducible apply go_ld_agg); rfl; rfl; rfl; rfl) | ((with_reducible apply go_load); rfl; rfl; rfl) | ((with_reducible apply go_load_own); rfl; rfl; rfl; rfl))
             | (((with_reducible apply go_fieldAddr_own); rfl; rfl; rfl))
             | ((with_reducible (show evOp _ (.indexAddr _ _ _) _ _ _ _)) ; first | ((with_reducible apply go_index_nat); rfl; rfl; (with_reducible rfl); (intro; rfl); rfl; omega; (intro hlt)) | ((with_reducible apply go_index_om); rfl; rfl; rfl; (with_reducible rfl); rfl; rfl; omega; (intro hlt)) | ((with_reducible apply go_index); rfl; rfl; (intro; rfl); rfl; omega; intro hlt))
             | ((with_reducible (show evOp _ (.binOp _ _ _ _ _) _ _ _ _)) ; first | ((with_reducible apply go_cmp); rfl; rfl; rfl; rfl) | ((with_reducible apply go_add); rfl; rfl; rfl; omega) | ((with_reducible apply go_sub); rfl; rfl; rfl; omega))
             | ((with_reducible (show evOp _ (.call _) _ _ _ _)) ; first | ((with_reducible apply go_len_own); rfl; rfl; rfl) | ((with_reducible apply go_fn_bool); rfl; (exact c1); rfl) | ((with_reducible apply go_fn_bool); rfl; (exact c2); rfl) | ((with_reducible apply go_fn_int); rfl; (exact c3); rfl) | ((with_reducible apply go_fn_int); rfl; (exact c4); rfl))
             | (((with_reducible apply go_not); rfl; rfl))
             | (((with_reducible apply go_pick); rfl; rfl; rfl))
             | (((with_reducible apply go_bd3_iii); rfl; rfl; rfl; rfl; rfl))
             | (((with_reducible apply go_bs1_agg); rfl; rfl; rfl; rfl; rfl; rfl)))
           | ((with_reducible (show evOps _ _ _ _ _ _)); first
             | (with_reducible apply go_nil)
             | ((with_reducible apply go_run); rfl; rfl)
             | ((with_reducible apply go_pass); rfl; rfl; rfl)
             | (((with_reducible apply go_guard); rfl) <;> (intro h; simp only [h, Bool.not_true, Bool.not_false]; (try with_reducible (refine ⟨rfl, ?_⟩)); try simp only [decide_eq_true_eq, decide_eq_false_iff_not, Bool.not_eq_true', Bool.not_eq_false', Bool.not_true, Bool.not_false] at h; try exact absurd trivial h))
             | ((with_reducible apply go_pre); rfl)
             | (with_reducible apply go_pre_nil)
             | ((with_reducible apply go_suf); rfl)
             | (with_reducible apply go_suf_nil))
           | ((with_reducible (show ev _ _ _ _)); first
             | (with_reducible apply go_seq)
             | (with_reducible apply go_region)
             | ((with_reducible apply go_cond_t); rfl; rfl)
             | ((with_reducible apply go_cond_f); rfl; rfl)
             | (((with_reducible apply go_cond); rfl) <;> (intro h; simp only [h]; try simp only [decide_eq_true_eq, decide_eq_false_iff_not, Bool.not_eq_true', Bool.not_eq_false', Bool.not_true, Bool.not_false] at h; try exact absurd trivial h))
             | ((with_reducible apply go_order); kernel_rfl; rfl)
             | (with_reducible apply go_skipc)
             | (with_reducible apply go_block)
             | (with_reducible apply go_exit))
           | (with_reducible apply go_kseq)
           | (with_reducible apply go_ksuf)
           | (with_reducible apply go_kblock)
           | (with_reducible apply go_kblock_exit)
           | (with_reducible apply go_kseq_exit)
        all_goals try first
          | exact absurd hlj (by omega)
          | (refine ⟨hlj, trivial, ?_⟩
             rw [hnil (by unfold steepOf; (repeat' split) <;> first | rfl | (exfalso; omega))]
             exact entails_eq (nx := 32) (k := 1) (ns := []) (ks := [5, 8, 7, 6, 2, 3]) [(2, 2), (3, 3), (0, 0), (1, 1)] rfl (by simp) (by kernel_rfl))
        · have hev : ((a.levels[i] - a.levels[N[j].toNat]'(by omega)).natAbs : Int) = a.levels[i] - a.levels[N[j].toNat]'(by omega) := by omega
          refine go_app_map (f := encSteep) (a := ⟨_, _, _⟩) (l := steepAcc g a N i j) scalSteep rfl rfl rfl rfl rfl rfl (by kernel_rfl) (by kernel_rfl) hl1 rfl ?_
          repeat' first
           | (with_reducible apply go_op)
           | (with_reducible apply go_next)
           | ((with_reducible (show evOp _ _ _ _ _ _)); first
             | ((with_reducible (show evOp _ (.move _) _ _ _ _)) ; first | ((with_reducible apply go_mv_int); rfl; rfl) | ((with_reducible apply go_mv_os); rfl; rfl))
             | ((with_reducible apply go_as))
             | (((with_reducible apply go_add); rfl; rfl; rfl; omega)))
           | ((with_reducible (show evOps _ _ _ _ _ _)); first
             | (with_reducible apply go_nil))
           | ((with_reducible (show ev _ _ _ _)); first
             | (with_reducible apply go_region))
           | (with_reducible apply go_kseq)
           | (with_reducible apply go_kblock)
          refine ⟨hlj, trivial, ?_⟩
          have e := hone ⟨i, N[j], ((a.levels[i] - a.levels[N[j].toNat]'(by omega)).natAbs : Int) - allowE g a i N[j].toNat⟩ (by unfold steepOf; rw [if_neg (by omega), if_neg (by omega), if_pos (by omega), e1, e2, hev])
          have el : (steepAcc g a N i j).length + 1 = (steepAcc g a N i (j + 1)).length := by rw [e]; simp
          rw [← e, el]
          exact entails_eq (nx := 32) (k := 1) (ns := []) (ks := [5, 8, 7, 6, 2, 3]) [(2, 2), (3, 3), (0, 0), (1, 1)] rfl (by simp) (by kernel_rfl)
        · have hev : ((a.levels[i] - a.levels[N[j].toNat]'(by omega)).natAbs : Int) = a.levels[N[j].toNat]'(by omega) - a.levels[i] := by omega
          refine go_app_map (f := encSteep) (a := ⟨_, _, _⟩) (l := steepAcc g a N i j) scalSteep rfl rfl rfl rfl rfl rfl (by kernel_rfl) (by kernel_rfl) hl1 rfl ?_
          repeat' first
           | (with_reducible apply go_op)
           | (with_reducible apply go_next)
           | ((with_reducible (show evOp _ _ _ _ _ _)); first
             | ((with_reducible (show evOp _ (.move _) _ _ _ _)) ; first | ((with_reducible apply go_mv_int); rfl; rfl) | ((with_reducible apply go_mv_os); rfl; rfl))
             | ((with_reducible apply go_as))
             | (((with_reducible apply go_add); rfl; rfl; rfl; omega)))
           | ((with_reducible (show evOps _ _ _ _ _ _)); first
             | (with_reducible apply go_nil))
           | ((with_reducible (show ev _ _ _ _)); first
             | (with_reducible apply go_region))
           | (with_reducible apply go_kseq)
           | (with_reducible apply go_kblock)
          refine ⟨hlj, trivial, ?_⟩
          have e := hone ⟨N[j], i, ((a.levels[i] - a.levels[N[j].toNat]'(by omega)).natAbs : Int) - allowE g a i N[j].toNat⟩ (by unfold steepOf; rw [if_neg (by omega), if_pos (by omega), if_pos (by omega), e1, e2, hev])
          have el : (steepAcc g a N i j).length + 1 = (steepAcc g a N i (j + 1)).length := by rw [e]; simp
          rw [← e, el]
          exact entails_eq (nx := 32) (k := 1) (ns := []) (ks := [5, 8, 7, 6, 2, 3]) [(2, 2), (3, 3), (0, 0), (1, 1)] rfl (by simp) (by kernel_rfl)
      · have e : j = N.length := by omega
        subst e
        repeat' first
           | (with_reducible apply go_op)
           | (with_reducible apply go_next)
           | ((with_reducible (show evOp _ _ _ _ _ _)); first
             | ((with_reducible (show evOp _ (.move _) _ _ _ _)) ; first | ((with_reducible apply go_mv_int); rfl; rfl) | ((with_reducible apply go_mv_bool); rfl; rfl) | ((with_reducible apply go_mv_os); rfl; rfl))
             | ((with_reducible apply go_as))
             | ((with_reducible (show evOp _ (.load _ _) _ _ _ _)) ; first | ((with_reducible apply go_load_om); rfl; rfl; rfl; rfl; rotate_left; assumption) | ((with_reducible apply go_ld_agg); rfl; rfl; rfl; rfl))
             | (((with_reducible apply go_index_om); rfl; rfl; rfl; (with_reducible rfl); rfl; rfl; omega; (intro hlt)))
             | ((with_reducible (show evOp _ (.binOp _ _ _ _ _) _ _ _ _)) ; first | ((with_reducible apply go_cmp); rfl; rfl; rfl; rfl) | ((with_reducible apply go_add); rfl; rfl; rfl; omega))
             | (((with_reducible apply go_len_own); rfl; rfl; rfl))
             | (((with_reducible apply go_pick); rfl; rfl; rfl)))
           | ((with_reducible (show evOps _ _ _ _ _ _)); first
             | (with_reducible apply go_nil)
             | ((with_reducible apply go_run); rfl; rfl)
             | ((with_reducible apply go_pass); rfl; rfl; rfl)
             | (((with_reducible apply go_guard); rfl) <;> (intro h; simp only [h, Bool.not_true, Bool.not_false]; (try with_reducible (refine ⟨rfl, ?_⟩)); try simp only [decide_eq_true_eq, decide_eq_false_iff_not, Bool.not_eq_true', Bool.not_eq_false', Bool.not_true, Bool.not_false] at h; try exact absurd trivial h)))
           | ((with_reducible (show ev _ _ _ _)); first
             | (with_reducible apply go_seq)
             | (with_reducible apply go_region)
             | ((with_reducible apply go_cond_t); rfl; rfl)
             | (((with_reducible apply go_cond); rfl) <;> (intro h; simp only [h]; try simp only [decide_eq_true_eq, decide_eq_false_iff_not, Bool.not_eq_true', Bool.not_eq_false', Bool.not_true, Bool.not_false] at h; try exact absurd trivial h))
             | (with_reducible apply go_skipc)
             | (with_reducible apply go_block)
             | (with_reducible apply go_exit))
           | (with_reducible apply go_kseq)
           | (with_reducible apply go_kblock)
           | (with_reducible apply go_kblock_exit)
           | (with_reducible apply go_kseq_exit)
        rotate_left
        all_goals try exact absurd ‹_› (by omega)
        refine ⟨hlt, trivial, ?_⟩
        rw [hend]
        exact entails_eq (nx := 32) (k := 1) (ns := []) (ks := [5, 6, 2, 3]) [(2, 2), (0, 0), (1, 1)] rfl (by simp) (by kernel_rfl)
    · exact absurd hlt (by omega)
  · have e : i = a.levels.length := by omega
    subst e
    repeat' first
           | (with_reducible apply go_op)
           | (with_reducible apply go_next)
           | ((with_reducible (show evOp _ _ _ _ _ _)); first
             | ((with_reducible (show evOp _ (.move _) _ _ _ _)) ; first | ((with_reducible apply go_mv_int); rfl; rfl) | ((with_reducible apply go_mv_os); rfl; rfl))
             | ((with_reducible apply go_as))
             | ((with_reducible (show evOp _ (.load _ _) _ _ _ _)) ; first | ((with_reducible apply go_ld_agg); rfl; rfl; rfl; rfl) | ((with_reducible apply go_load_own); rfl; rfl; rfl; rfl))
             | (((with_reducible apply go_fieldAddr_own); rfl; rfl; rfl))
             | (((with_reducible apply go_cmp); rfl; rfl; rfl; rfl))
             | (((with_reducible apply go_len); rfl; rfl)))
           | ((with_reducible (show evOps _ _ _ _ _ _)); first
             | (with_reducible apply go_nil))
           | ((with_reducible (show ev _ _ _ _)); first
             | (with_reducible apply go_seq)
             | (with_reducible apply go_region)
             | (((with_reducible apply go_cond); rfl) <;> (intro h; simp only [h]; try simp only [decide_eq_true_eq, decide_eq_false_iff_not, Bool.not_eq_true', Bool.not_eq_false', Bool.not_true, Bool.not_false] at h; try exact absurd trivial h))
             | (with_reducible apply go_ret)
             | (with_reducible apply go_skipc)
             | (with_reducible apply go_block)
             | (with_reducible apply go_exit))
           | (with_reducible apply go_kseq)
           | (with_reducible apply go_kblock_exit)
           | (with_reducible apply go_kseq_exit)
    · exact absurd hlt (by omega)
    · exact end_frn rfl rfl rfl rfl

theorem okGridE {m : Grid} (h : gridE m = 0) : gridE m = 0 ∧ OkGrid m := ⟨h, okGrid h⟩
theorem gridded1 {g : Ground} {m : Grid} (h : griddedE g [m] = 0) : groundE g = 0 ∧ gridE m = 0 := by
  unfold griddedE at h
  split at h
  · omega
  · rename_i h1
    split at h
    · rename_i h2; omega
    · rename_i h2
      refine ⟨by omega, ?_⟩
      simp only [List.map_cons, List.map_nil, firstOf] at h2
      split at h2 <;> omega

/-- The pairs that differ too much, or none. -/
def steepsR (g : Ground) (m : Grid) : List Steep := if griddedE g [m] = 0 then steepL g m m.levels.length else []

theorem c39 (g : Ground) (hs : g.soils.length < 1000000000000) (hb : g.borings.length < 1000000000000) (m : Grid) (hl : m.levels.length < 1000000000000) :
    Contract Try.prog 39 [.agg (encGround g), .agg (encGrid m)] (.ret (.tup [.fr 3 ((steepsR g m).map encSteep), .int .i64 (griddedE g [m])])) := by
  have h93 := c93 g hs hb [m] (by simp) (by simpa using hl)
  by_cases h : griddedE g [m] = 0
  · obtain ⟨h1, h2⟩ := gridded1 h
    have hm := okGrid h2
    have hg := okG h1
    rw [show steepsR g m = steepL g m m.levels.length from if_pos h]
    rw [h] at h93 ⊢
    refine contract_of mix Try.func39 rfl rfl (by rw [Try.ntmps39]; exact Nat.le_of_ble_eq_true rfl) ?_; rw [Try.results39, Try.ntmps39]; simp only [argsE, Nat.reduceAdd]
    repeat' first
           | (with_reducible apply go_op)
           | (with_reducible apply go_next)
           | ((with_reducible (show evOp _ _ _ _ _ _)); first
             | ((with_reducible (show evOp _ (.move _) _ _ _ _)) ; first | ((with_reducible apply go_mv_int); rfl; rfl) | ((with_reducible apply go_mv_os); rfl; rfl) | ((with_reducible apply go_mv_nilsl); rfl; rfl))
             | ((with_reducible apply go_as))
             | (((with_reducible apply go_ld_agg); rfl; rfl; rfl; rfl))
             | (((with_reducible apply go_cmp); rfl; rfl; rfl; rfl))
             | ((with_reducible (show evOp _ (.call _) _ _ _ _)) ; first | ((with_reducible apply go_fn_int); rfl; (exact h93); rfl) | ((with_reducible apply (go_fn_agf (cs := encGrid m))); rfl; (exact c94 g hg hs m hm h2); (exact scalInt); rfl; rfl; rfl; rfl; rfl) | ((with_reducible apply go_fn_fr); (exact purL_agf (cs := encGrid m) rfl (by simp) rfl rfl rfl); (exact c95 g hg m hm h2 m hm rfl (fun _ _ => rfl) (fun _ _ => rfl)); (exact scalSteep); rfl))
             | (((with_reducible apply go_bd1_agg); rfl; rfl; rfl; rfl))
             | (((with_reducible apply go_bx_agg); rfl; rfl; (exact Nat.le_of_ble_eq_true rfl); rfl; rfl))
             | (((with_reducible apply go_bs1_agg); rfl; rfl; rfl; rfl; rfl; rfl)))
           | ((with_reducible (show evOps _ _ _ _ _ _)); first
             | (with_reducible apply go_nil)
             | ((with_reducible apply go_pre); rfl)
             | (with_reducible apply go_pre_nil)
             | ((with_reducible apply go_suf); rfl)
             | (with_reducible apply go_suf_nil))
           | ((with_reducible (show ev _ _ _ _)); first
             | (with_reducible apply go_seq)
             | (with_reducible apply go_region)
             | ((with_reducible apply go_cond_f); rfl; rfl)
             | ((with_reducible apply go_order); kernel_rfl; rfl)
             | (with_reducible apply go_ret)
             | (with_reducible apply go_skipc))
           | (with_reducible apply go_kseq)
           | (with_reducible apply go_ksuf)
    all_goals first
      | exact absurd rfl ‹_›
      | exact finK_ret (fin_fr2 rfl (by simp) rfl rfl rfl)
      | trace_state
  · rw [show steepsR g m = [] from if_neg h]
    refine contract_of mix Try.func39 rfl rfl (by rw [Try.ntmps39]; exact Nat.le_of_ble_eq_true rfl) ?_; rw [Try.results39, Try.ntmps39]; simp only [argsE, Nat.reduceAdd]
    repeat' first
           | (with_reducible apply go_op)
           | (with_reducible apply go_next)
           | ((with_reducible (show evOp _ _ _ _ _ _)); first
             | ((with_reducible (show evOp _ (.move _) _ _ _ _)) ; first | ((with_reducible apply go_mv_int); rfl; rfl) | ((with_reducible apply go_mv_nilsl); rfl; rfl))
             | ((with_reducible apply go_as))
             | (((with_reducible apply go_ld_agg); rfl; rfl; rfl; rfl))
             | (((with_reducible apply go_cmp); rfl; rfl; rfl; rfl))
             | (((with_reducible apply go_fn_int); rfl; (exact h93); rfl))
             | (((with_reducible apply go_bd1_agg); rfl; rfl; rfl; rfl))
             | (((with_reducible apply go_bx_agg); rfl; rfl; (exact Nat.le_of_ble_eq_true rfl); rfl; rfl))
             | (((with_reducible apply go_bs1_agg); rfl; rfl; rfl; rfl; rfl; rfl)))
           | ((with_reducible (show evOps _ _ _ _ _ _)); first
             | (with_reducible apply go_nil)
             | ((with_reducible apply go_pre); rfl))
           | ((with_reducible (show ev _ _ _ _)); first
             | (with_reducible apply go_seq)
             | (with_reducible apply go_region)
             | (((with_reducible apply go_cond); rfl) <;> (intro h; simp only [h]; try simp only [decide_eq_true_eq, decide_eq_false_iff_not, Bool.not_eq_true', Bool.not_eq_false', Bool.not_true, Bool.not_false] at h; try exact absurd trivial h))
             | ((with_reducible apply go_order); kernel_rfl; rfl)
             | (with_reducible apply go_ret)
             | (with_reducible apply go_skipc))
           | (with_reducible apply go_kseq)
           | (with_reducible apply go_kseq_ret)
    all_goals first
      | exact finK_ret (fin_nil2 rfl rfl rfl)
      | exact absurd ‹_ = _› ‹¬ _›
end Go.Pv.Soil

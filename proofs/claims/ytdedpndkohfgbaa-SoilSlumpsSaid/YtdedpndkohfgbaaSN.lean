import Derived.Test.YtdedpndkohfgbaaProg
import Derived.Test.YtdedpndkohfgbaaSM
import Derived.KernelRfl
import Derived.Test.YtdedpndkohfgbaaSL
/- Part of the proofs over Ytdedpndkohfgbaa: S37, S38. -/
set_option linter.unusedVariables false
set_option linter.unusedSimpArgs false
set_option linter.unnecessarySimpa false
open Go Go.Proofs Go.Pv
set_option maxHeartbeats 2000000
set_option maxRecDepth 100000
set_option linter.unusedSimpArgs false
set_option linter.unusedVariables false
namespace Go.Pv.Soil

theorem c59 (g : Ground) (hg : OkG g) (hsl : g.soils.length < 1000000000000) (a : Grid) (ha : OkGrid a) :
    Contract Try.prog 59 [.agg (encGround g), .agg (encGrid a)] (.ret (.fr 3 ((steepL g a a.levels.length).map encSteep))) := by
  have hs := ha.small
  refine contract_of mix Try.func59 rfl rfl (by rw [Try.ntmps59]; exact Nat.le_of_ble_eq_true rfl) ?_; rw [Try.results59, Try.ntmps59]; simp only [argsE, Nat.reduceAdd]
  repeat' first
           | (with_reducible apply go_op)
           | (with_reducible apply go_next)
           | ((with_reducible (show evOp _ _ _ _ _ _)); first
             | ((with_reducible (show evOp _ (.move _) _ _ _ _)) ; first | ((with_reducible apply go_mv_int); rfl; rfl) | ((with_reducible apply go_mv_nilsl); rfl; rfl))
             | ((with_reducible apply go_as))
             | (((with_reducible apply go_bx_agg); rfl; rfl; (exact Nat.le_of_ble_eq_true rfl); rfl; rfl)))
           | ((with_reducible (show evOps _ _ _ _ _ _)); first
             | (with_reducible apply go_nil))
           | ((with_reducible (show ev _ _ _ _)); first
             | (with_reducible apply go_seq)
             | (with_reducible apply go_region)
             | (with_reducible apply go_block))
           | (with_reducible apply go_kseq)
  refine go_count a.levels.length (fun i => ⟨[(5, .os 2 0 (steepL g a i).length), (6, .int .i64 i), (2, .op 0 0 0), (3, .op 1 0 0)], [(2, ⟨3, true, (steepL g a i).map encSteep⟩), (0, ⟨2, true, [encGround g]⟩), (1, ⟨6, true, [encGrid a]⟩)], 32, 96⟩) (fun _ => True)
    (entails_eq (nx := 32) (k := 3) (ns := [(5, 2)]) (ks := [6, 2, 3]) [(0, 0), (32, 1)] rfl (by simp; rfl) rfl) trivial ?_
  intro i hi _
  by_cases hlt : i < a.levels.length
  · have c107i := c107 a ha i hlt
    repeat' first
           | (with_reducible apply go_op)
           | (with_reducible apply go_next)
           | ((with_reducible (show evOp _ _ _ _ _ _)); first
             | ((with_reducible (show evOp _ (.move _) _ _ _ _)) ; first | ((with_reducible apply go_mv_int); rfl; rfl) | ((with_reducible apply go_mv_os); rfl; rfl))
             | ((with_reducible apply go_as))
             | ((with_reducible (show evOp _ (.load _ _) _ _ _ _)) ; first | ((with_reducible apply go_ld_agg); rfl; rfl; rfl; rfl) | ((with_reducible apply go_load_own); rfl; rfl; rfl; rfl))
             | (((with_reducible apply go_fieldAddr_own); rfl; rfl; rfl))
             | (((with_reducible apply go_cmp); rfl; rfl; rfl; rfl))
             | ((with_reducible (show evOp _ (.call _) _ _ _ _)) ; first | ((with_reducible apply go_len); rfl; rfl) | ((with_reducible apply go_fn_fr); rfl; (exact c107i); (exact scalInt); rfl)))
           | ((with_reducible (show evOps _ _ _ _ _ _)); first
             | (with_reducible apply go_nil))
           | ((with_reducible (show ev _ _ _ _)); first
             | (with_reducible apply go_seq)
             | (with_reducible apply go_region)
             | (((with_reducible apply go_cond); rfl) <;> (intro h; simp only [h]; try simp only [decide_eq_true_eq, decide_eq_false_iff_not, Bool.not_eq_true', Bool.not_eq_false', Bool.not_true, Bool.not_false] at h; try exact absurd trivial h))
             | (with_reducible apply go_ret)
             | (with_reducible apply go_skipc)
             | (with_reducible apply go_block)
             | (with_reducible apply go_exit))
           | (with_reducible apply go_kseq)
           | (with_reducible apply go_kblock_exit)
           | (with_reducible apply go_kseq_exit)
    · have hNm : ∀ j (hj : j < (nearL a i a.levels.length).length), 0 ≤ (nearL a i a.levels.length)[j] ∧ (nearL a i a.levels.length)[j] < a.levels.length := fun j hj => by
        obtain ⟨k, h1, h2, _⟩ := (nearL_mem a i _ _).1 (List.getElem_mem hj)
        omega
      have hNl := nearL_len a i a.levels.length
      have hend := steepAcc_end g a i
      have hAl := steepAcc_len g a (nearL a i a.levels.length) i
      have hsucc := fun j hj => steepAcc_succ g a (N := nearL a i a.levels.length) i (j := j) hj
      have hmul := Nat.mul_le_mul (show i ≤ 1024 by omega) hs
      generalize nearL a i a.levels.length = N at *
      refine go_count N.length (fun j => ⟨[(5, .os 2 0 (steepAcc g a N i j).length), (8, .int .i64 j), (7, .os 3 0 N.length), (6, .int .i64 i), (2, .op 0 0 0), (3, .op 1 0 0)], [(2, ⟨3, true, (steepAcc g a N i j).map encSteep⟩), (3, ⟨1, true, N.map encInt⟩), (0, ⟨2, true, [encGround g]⟩), (1, ⟨6, true, [encGrid a]⟩)], 32, 96⟩) (fun _ => True)
        (entails_eq (nx := 32) (k := 1) (ns := []) (ks := [5, 8, 7, 6, 2, 3]) [(2, 2), (256, 3), (0, 0), (1, 1)] rfl (by simp) (by kernel_rfl)) trivial ?_
      intro j hj _
      by_cases hlj : j < N.length
      · have hb := hNm j hlj
        have hl1 : (steepAcc g a N i j).length ≤ 1000000000 := by have := hAl j hj; omega
        have hnil : steepOf g a i N[j] = [] → steepAcc g a N i (j + 1) = steepAcc g a N i j := fun h => by rw [hsucc j hlj, h, List.append_nil]
        have hone : ∀ s, steepOf g a i N[j] = [s] → steepAcc g a N i (j + 1) = steepAcc g a N i j ++ [s] := fun s h => by rw [hsucc j hlj, h]
        have e1 := lv_get hlt
        have e2 : lv a.levels N[j].toNat = a.levels[N[j].toNat]'(by omega) := lv_get (by omega)
        have b1 : -20000 ≤ a.levels[i] ∧ a.levels[i] ≤ 30000 := by
          have := ha.rng i hlt
          omega
        have b2 : -20000 ≤ a.levels[N[j].toNat]'(by omega) ∧ a.levels[N[j].toNat]'(by omega) ≤ 30000 := by
          have := ha.rng N[j].toNat (by omega)
          omega
        have b3 := allowE_bd hg ha i N[j].toNat
        have c1 : Contract Try.prog 41 [.agg (encGrid a), .int .i64 i] (.ret (.bool (!decide (lv a.levels i = 30000)))) := c41L a (i : Int) (by omega) (by omega)
        have c2 := c41L a N[j] hb (by omega)
        have c3 : Contract Try.prog 62 [.agg (encGround g), .agg (encGrid a), .int .i64 i, .int .i64 N[j]] (.ret (.int .i64 (allowE g a i N[j].toNat))) := c62L g hg hsl a ha (i : Int) N[j] (by omega) (by omega)
        have c4 := c110 (a.levels[i] - a.levels[N[j].toNat]'(by omega)) (by omega)
        repeat' first
           | (with_reducible apply go_op)
           | (with_reducible apply go_next)
           | ((with_reducible (show evOp _ _ _ _ _ _)); first
             | ((with_reducible (show evOp _ (.move _) _ _ _ _)) ; first | ((with_reducible apply go_mv_int); rfl; rfl) | ((with_reducible apply go_mv_bool); rfl; rfl) | ((with_reducible apply go_mv_os); rfl; rfl))
             | ((with_reducible apply go_as))
             | ((with_reducible (show evOp _ (.load _ _) _ _ _ _)) ; first | ((with_reducible apply go_load_om); rfl; rfl; rfl; rfl; rotate_left; assumption) | ((with_reducible apply go_ld_agg); rfl; rfl; rfl; rfl) | ((with_reducible apply go_load); rfl; rfl; rfl) | ((with_reducible apply go_load_own); rfl; rfl; rfl; rfl))
             | (((with_reducible apply go_fieldAddr_own); rfl; rfl; rfl))
             | ((with_reducible (show evOp _ (.indexAddr _ _ _) _ _ _ _)) ; first | ((with_reducible apply go_index_nat); rfl; rfl; (with_reducible rfl); (intro; rfl); rfl; omega; (intro hlt)) | ((with_reducible apply go_index_om); rfl; rfl; rfl; (with_reducible rfl); rfl; rfl; omega; (intro hlt)) | ((with_reducible apply go_index); rfl; rfl; (intro; rfl); rfl; omega; intro hlt))
             | ((with_reducible (show evOp _ (.binOp _ _ _ _ _) _ _ _ _)) ; first | ((with_reducible apply go_cmp); rfl; rfl; rfl; rfl) | ((with_reducible apply go_add); rfl; rfl; rfl; omega) | ((with_reducible apply go_sub); rfl; rfl; rfl; omega))
             | ((with_reducible (show evOp _ (.call _) _ _ _ _)) ; first | ((with_reducible apply go_len_own); rfl; rfl; rfl) | ((with_reducible apply go_fn_bool); rfl; (exact c1); rfl) | ((with_reducible apply go_fn_bool); rfl; (exact c2); rfl) | ((with_reducible apply go_fn_int); rfl; (exact c3); rfl) | ((with_reducible apply go_fn_int); rfl; (exact c4); rfl))
             | (((with_reducible apply go_not); rfl; rfl))
             | (((with_reducible apply go_pick); rfl; rfl; rfl))
             | (((with_reducible apply go_bd3_iii); rfl; rfl; rfl; rfl; rfl))
             | (((with_reducible apply go_bs1_agg); rfl; rfl; rfl; rfl; rfl; rfl)))
           | ((with_reducible (show evOps _ _ _ _ _ _)); first
             | (with_reducible apply go_nil)
             | ((with_reducible apply go_run); rfl; rfl)
             | ((with_reducible apply go_pass); rfl; rfl; rfl)
             | (((with_reducible apply go_guard); rfl) <;> (intro h; simp only [h, Bool.not_true, Bool.not_false]; (try with_reducible (refine ⟨rfl, ?_⟩)); try simp only [decide_eq_true_eq, decide_eq_false_iff_not, Bool.not_eq_true', Bool.not_eq_false', Bool.not_true, Bool.not_false] at h; try exact absurd trivial h))
             | ((with_reducible apply go_pre); rfl)
             | (with_reducible apply go_pre_nil)
             | ((with_reducible apply go_suf); rfl)
             | (with_reducible apply go_suf_nil))
           | ((with_reducible (show ev _ _ _ _)); first
             | (with_reducible apply go_seq)
             | (with_reducible apply go_region)
             | ((with_reducible apply go_cond_t); rfl; rfl)
             | ((with_reducible apply go_cond_f); rfl; rfl)
             | (((with_reducible apply go_cond); rfl) <;> (intro h; simp only [h]; try simp only [decide_eq_true_eq, decide_eq_false_iff_not, Bool.not_eq_true', Bool.not_eq_false', Bool.not_true, Bool.not_false] at h; try exact absurd trivial h))
             | ((with_reducible apply go_order); kernel_rfl; rfl)
             | (with_reducible apply go_skipc)
             | (with_reducible apply go_block)
             | (with_reducible apply go_exit))
           | (with_reducible apply go_kseq)
           | (with_reducible apply go_ksuf)
           | (with_reducible apply go_kblock)
           | (with_reducible apply go_kblock_exit)
           | (with_reducible apply go_kseq_exit)
        all_goals try first
          | exact absurd hlj (by omega)
          | (refine ⟨hlj, trivial, ?_⟩
             rw [hnil (by unfold steepOf; (repeat' split) <;> first | rfl | (exfalso; omega))]
             exact entails_eq (nx := 32) (k := 1) (ns := []) (ks := [5, 8, 7, 6, 2, 3]) [(2, 2), (3, 3), (0, 0), (1, 1)] rfl (by simp) (by kernel_rfl))
        · have hev : ((a.levels[i] - a.levels[N[j].toNat]'(by omega)).natAbs : Int) = a.levels[i] - a.levels[N[j].toNat]'(by omega) := by omega
          refine go_app_map (f := encSteep) (a := ⟨_, _, _⟩) (l := steepAcc g a N i j) scalSteep rfl rfl rfl rfl rfl rfl (by kernel_rfl) (by kernel_rfl) hl1 rfl ?_
          repeat' first
           | (with_reducible apply go_op)
           | (with_reducible apply go_next)
           | ((with_reducible (show evOp _ _ _ _ _ _)); first
             | ((with_reducible (show evOp _ (.move _) _ _ _ _)) ; first | ((with_reducible apply go_mv_int); rfl; rfl) | ((with_reducible apply go_mv_os); rfl; rfl))
             | ((with_reducible apply go_as))
             | (((with_reducible apply go_add); rfl; rfl; rfl; omega)))
           | ((with_reducible (show evOps _ _ _ _ _ _)); first
             | (with_reducible apply go_nil))
           | ((with_reducible (show ev _ _ _ _)); first
             | (with_reducible apply go_region))
           | (with_reducible apply go_kseq)
           | (with_reducible apply go_kblock)
          refine ⟨hlj, trivial, ?_⟩
          have e := hone ⟨i, N[j], ((a.levels[i] - a.levels[N[j].toNat]'(by omega)).natAbs : Int) - allowE g a i N[j].toNat⟩ (by unfold steepOf; rw [if_neg (by omega), if_neg (by omega), if_pos (by omega), e1, e2, hev])
          have el : (steepAcc g a N i j).length + 1 = (steepAcc g a N i (j + 1)).length := by rw [e]; simp
          rw [← e, el]
          exact entails_eq (nx := 32) (k := 1) (ns := []) (ks := [5, 8, 7, 6, 2, 3]) [(2, 2), (3, 3), (0, 0), (1, 1)] rfl (by simp) (by kernel_rfl)
        · have hev : ((a.levels[i] - a.levels[N[j].toNat]'(by omega)).natAbs : Int) = a.levels[N[j].toNat]'(by omega) - a.levels[i] := by omega
          refine go_app_map (f := encSteep) (a := ⟨_, _, _⟩) (l := steepAcc g a N i j) scalSteep rfl rfl rfl rfl rfl rfl (by kernel_rfl) (by kernel_rfl) hl1 rfl ?_
          repeat' first
           | (with_reducible apply go_op)
           | (with_reducible apply go_next)
           | ((with_reducible (show evOp _ _ _ _ _ _)); first
             | ((with_reducible (show evOp _ (.move _) _ _ _ _)) ; first | ((with_reducible apply go_mv_int); rfl; rfl) | ((with_reducible apply go_mv_os); rfl; rfl))
             | ((with_reducible apply go_as))
             | (((with_reducible apply go_add); rfl; rfl; rfl; omega)))
           | ((with_reducible (show evOps _ _ _ _ _ _)); first
             | (with_reducible apply go_nil))
           | ((with_reducible (show ev _ _ _ _)); first
             | (with_reducible apply go_region))
           | (with_reducible apply go_kseq)
           | (with_reducible apply go_kblock)
          refine ⟨hlj, trivial, ?_⟩
          have e := hone ⟨N[j], i, ((a.levels[i] - a.levels[N[j].toNat]'(by omega)).natAbs : Int) - allowE g a i N[j].toNat⟩ (by unfold steepOf; rw [if_neg (by omega), if_pos (by omega), if_pos (by omega), e1, e2, hev])
          have el : (steepAcc g a N i j).length + 1 = (steepAcc g a N i (j + 1)).length := by rw [e]; simp
          rw [← e, el]
          exact entails_eq (nx := 32) (k := 1) (ns := []) (ks := [5, 8, 7, 6, 2, 3]) [(2, 2), (3, 3), (0, 0), (1, 1)] rfl (by simp) (by kernel_rfl)
      · have e : j = N.length := by omega
        subst e
        repeat' first
           | (with_reducible apply go_op)
           | (with_reducible apply go_next)
           | ((with_reducible (show evOp _ _ _ _ _ _)); first
             | ((with_reducible (show evOp _ (.move _) _ _ _ _)) ; first | ((with_reducible apply go_mv_int); rfl; rfl) | ((with_reducible apply go_mv_bool); rfl; rfl) | ((with_reducible apply go_mv_os); rfl; rfl))
             | ((with_reducible apply go_as))
             | ((with_reducible (show evOp _ (.load _ _) _ _ _ _)) ; first | ((with_reducible apply go_load_om); rfl; rfl; rfl; rfl; rotate_left; assumption) | ((with_reducible apply go_ld_agg); rfl; rfl; rfl; rfl))
             | (((with_reducible apply go_index_om); rfl; rfl; rfl; (with_reducible rfl); rfl; rfl; omega; (intro hlt)))
             | ((with_reducible (show evOp _ (.binOp _ _ _ _ _) _ _ _ _)) ; first | ((with_reducible apply go_cmp); rfl; rfl; rfl; rfl) | ((with_reducible apply go_add); rfl; rfl; rfl; omega))
             | (((with_reducible apply go_len_own); rfl; rfl; rfl))
             | (((with_reducible apply go_pick); rfl; rfl; rfl)))
           | ((with_reducible (show evOps _ _ _ _ _ _)); first
             | (with_reducible apply go_nil)
             | ((with_reducible apply go_run); rfl; rfl)
             | ((with_reducible apply go_pass); rfl; rfl; rfl)
             | (((with_reducible apply go_guard); rfl) <;> (intro h; simp only [h, Bool.not_true, Bool.not_false]; (try with_reducible (refine ⟨rfl, ?_⟩)); try simp only [decide_eq_true_eq, decide_eq_false_iff_not, Bool.not_eq_true', Bool.not_eq_false', Bool.not_true, Bool.not_false] at h; try exact absurd trivial h)))
           | ((with_reducible (show ev _ _ _ _)); first
             | (with_reducible apply go_seq)
             | (with_reducible apply go_region)
             | ((with_reducible apply go_cond_t); rfl; rfl)
             | (((with_reducible apply go_cond); rfl) <;> (intro h; simp only [h]; try simp only [decide_eq_true_eq, decide_eq_false_iff_not, Bool.not_eq_true', Bool.not_eq_false', Bool.not_true, Bool.not_false] at h; try exact absurd trivial h))
             | (with_reducible apply go_skipc)
             | (with_reducible apply go_block)
             | (with_reducible apply go_exit))
           | (with_reducible apply go_kseq)
           | (with_reducible apply go_kblock)
           | (with_reducible apply go_kblock_exit)
           | (with_reducible apply go_kseq_exit)
        rotate_left
        all_goals try exact absurd ‹_› (by omega)
        refine ⟨hlt, trivial, ?_⟩
        rw [hend]
        exact entails_eq (nx := 32) (k := 1) (ns := []) (ks := [5, 6, 2, 3]) [(2, 2), (0, 0), (1, 1)] rfl (by simp) (by kernel_rfl)
    · exact absurd hlt (by omega)
  · have e : i = a.levels.length := by omega
    subst e
    repeat' first
           | (with_reducible apply go_op)
           | (with_reducible apply go_next)
           | ((with_reducible (show evOp _ _ _ _ _ _)); first
             | ((with_reducible (show evOp _ (.move _) _ _ _ _)) ; first | ((with_reducible apply go_mv_int); rfl; rfl) | ((with_reducible apply go_mv_os); rfl; rfl))
             | ((with_reducible apply go_as))
             | ((with_reducible (show evOp _ (.load _ _) _ _ _ _)) ; first | ((with_reducible apply go_ld_agg); rfl; rfl; rfl; rfl) | ((with_reducible apply go_load_own); rfl; rfl; rfl; rfl))
             | (((with_reducible apply go_fieldAddr_own); rfl; rfl; rfl))
             | (((with_reducible apply go_cmp); rfl; rfl; rfl; rfl))
             | (((with_reducible apply go_len); rfl; rfl)))
           | ((with_reducible (show evOps _ _ _ _ _ _)); first
             | (with_reducible apply go_nil))
           | ((with_reducible (show ev _ _ _ _)); first
             | (with_reducible apply go_seq)
             | (with_reducible apply go_region)
             | (((with_reducible apply go_cond); rfl) <;> (intro h; simp only [h]; try simp only [decide_eq_true_eq, decide_eq_false_iff_not, Bool.not_eq_true', Bool.not_eq_false', Bool.not_true, Bool.not_false] at h; try exact absurd trivial h))
             | (with_reducible apply go_ret)
             | (with_reducible apply go_skipc)
             | (with_reducible apply go_block)
             | (with_reducible apply go_exit))
           | (with_reducible apply go_kseq)
           | (with_reducible apply go_kblock_exit)
           | (with_reducible apply go_kseq_exit)
    · exact absurd hlt (by omega)
    · exact end_frn rfl rfl rfl rfl

theorem okGridE {m : Grid} (h : gridE m = 0) : gridE m = 0 ∧ OkGrid m := ⟨h, okGrid h⟩
theorem gridded1 {g : Ground} {m : Grid} (h : griddedE g [m] = 0) : groundE g = 0 ∧ gridE m = 0 := by
  unfold griddedE at h
  split at h
  · omega
  · rename_i h1
    split at h
    · rename_i h2; omega
    · rename_i h2
      refine ⟨by omega, ?_⟩
      simp only [List.map_cons, List.map_nil, firstOf] at h2
      split at h2 <;> omega

/-- The pairs that differ too much, or none. -/
def steepsR (g : Ground) (m : Grid) : List Steep := if griddedE g [m] = 0 then steepL g m m.levels.length else []

theorem c39 (g : Ground) (hs : g.soils.length < 1000000000000) (hb : g.borings.length < 1000000000000) (m : Grid) (hl : m.levels.length < 1000000000000) :
    Contract Try.prog 39 [.agg (encGround g), .agg (encGrid m)] (.ret (.tup [.fr 3 ((steepsR g m).map encSteep), .int .i64 (griddedE g [m])])) := by
  have h93 := c93 g hs hb [m] (by simp) (by simpa using hl)
  by_cases h : griddedE g [m] = 0
  · obtain ⟨h1, h2⟩ := gridded1 h
    have hm := okGrid h2
    have hg := okG h1
    rw [show steepsR g m = steepL g m m.levels.length from if_pos h]
    rw [h] at h93 ⊢
    refine contract_of mix Try.func39 rfl rfl (by rw [Try.ntmps39]; exact Nat.le_of_ble_eq_true rfl) ?_; rw [Try.results39, Try.ntmps39]; simp only [argsE, Nat.reduceAdd]
    repeat' first
           | (with_reducible apply go_op)
           | (with_reducible apply go_next)
           | ((with_reducible (show evOp _ _ _ _ _ _)); first
             | ((with_reducible (show evOp _ (.move _) _ _ _ _)) ; first | ((with_reducible apply go_mv_int); rfl; rfl) | ((with_reducible apply go_mv_os); rfl; rfl) | ((with_reducible apply go_mv_nilsl); rfl; rfl))
             | ((with_reducible apply go_as))
             | (((with_reducible apply go_ld_agg); rfl; rfl; rfl; rfl))
             | (((with_reducible apply go_cmp); rfl; rfl; rfl; rfl))
             | ((with_reducible (show evOp _ (.call _) _ _ _ _)) ; first | ((with_reducible apply go_fn_int); rfl; (exact h93); rfl) | ((with_reducible apply (go_fn_agf (cs := encGrid m))); rfl; (exact c94 g hg hs m hm h2); (exact scalInt); rfl; rfl; rfl; rfl; rfl) | ((with_reducible apply go_fn_fr); (exact purL_agf (cs := encGrid m) rfl (by simp) rfl rfl rfl); (exact c95 g hg m hm h2 m hm rfl (fun _ _ => rfl) (fun _ _ => rfl)); (exact scalSteep); rfl))
             | (((with_reducible apply go_bd1_agg); rfl; rfl; rfl; rfl))
             | (((with_reducible apply go_bx_agg); rfl; rfl; (exact Nat.le_of_ble_eq_true rfl); rfl; rfl))
             | (((with_reducible apply go_bs1_agg); rfl; rfl; rfl; rfl; rfl; rfl)))
           | ((with_reducible (show evOps _ _ _ _ _ _)); first
             | (with_reducible apply go_nil)
             | ((with_reducible apply go_pre); rfl)
             | (with_reducible apply go_pre_nil)
             | ((with_reducible apply go_suf); rfl)
             | (with_reducible apply go_suf_nil))
           | ((with_reducible (show ev _ _ _ _)); first
             | (with_reducible apply go_seq)
             | (with_reducible apply go_region)
             | ((with_reducible apply go_cond_f); rfl; rfl)
             | ((with_reducible apply go_order); kernel_rfl; rfl)
             | (with_reducible apply go_ret)
             | (with_reducible apply go_skipc))
           | (with_reducible apply go_kseq)
           | (with_reducible apply go_ksuf)
    all_goals first
      | exact absurd rfl ‹_›
      | exact finK_ret (fin_fr2 rfl (by simp) rfl rfl rfl)
      | trace_state
  · rw [show steepsR g m = [] from if_neg h]
    refine contract_of mix Try.func39 rfl rfl (by rw [Try.ntmps39]; exact Nat.le_of_ble_eq_true rfl) ?_; rw [Try.results39, Try.ntmps39]; simp only [argsE, Nat.reduceAdd]
    repeat' first
           | (with_reducible apply go_op)
           | (with_reducible apply go_next)
           | ((with_reducible (show evOp _ _ _ _ _ _)); first
             | ((with_reducible (show evOp _ (.move _) _ _ _ _)) ; first | ((with_reducible apply go_mv_int); rfl; rfl) | ((with_reducible apply go_mv_nilsl); rfl; rfl))
             | ((with_reducible apply go_as))
             | (((with_reducible apply go_ld_agg); rfl; rfl; rfl; rfl))
             | (((with_reducible apply go_cmp); rfl; rfl; rfl; rfl))
             | (((with_reducible apply go_fn_int); rfl; (exact h93); rfl))
             | (((with_reducible apply go_bd1_agg); rfl; rfl; rfl; rfl))
             | (((with_reducible apply go_bx_agg); rfl; rfl; (exact Nat.le_of_ble_eq_true rfl); rfl; rfl))
             | (((with_reducible apply go_bs1_agg); rfl; rfl; rfl; rfl; rfl; rfl)))
           | ((with_reducible (show evOps _ _ _ _ _ _)); first
             | (with_reducible apply go_nil)
             | ((with_reducible apply go_pre); rfl))
           | ((with_reducible (show ev _ _ _ _)); first
             | (with_reducible apply go_seq)
             | (with_reducible apply go_region)
             | (((with_reducible apply go_cond); rfl) <;> (intro h; simp only [h]; try simp only [decide_eq_true_eq, decide_eq_false_iff_not, Bool.not_eq_true', Bool.not_eq_false', Bool.not_true, Bool.not_false] at h; try exact absurd trivial h))
             | ((with_reducible apply go_order); kernel_rfl; rfl)
             | (with_reducible apply go_ret)
             | (with_reducible apply go_skipc))
           | (with_reducible apply go_kseq)
           | (with_reducible apply go_kseq_ret)
    all_goals first
      | exact finK_ret (fin_nil2 rfl rfl rfl)
      | exact absurd ‹_ = _› ‹¬ _›
end Go.Pv.Soil

open Go Go.Proofs Go.Pv
set_option maxHeartbeats 2000000
set_option maxRecDepth 100000
set_option linter.unusedSimpArgs false
set_option linter.unusedVariables false
namespace Go.Pv.Soil

theorem c61L (m : Grid) (hm : OkGrid m) (x y : Int) (hx : 0 ≤ x ∧ x < m.levels.length) (hy : 0 ≤ y ∧ y < m.levels.length) : Contract Try.prog 61 [.agg (encGrid m), .int .i64 x, .int .i64 y] (.ret (.bool (besideE m x.toNat y.toNat))) := by
  obtain ⟨k, rfl⟩ := Int.eq_ofNat_of_zero_le hx.1
  obtain ⟨j, rfl⟩ := Int.eq_ofNat_of_zero_le hy.1
  exact c61 m hm k j (by omega) (by omega)
theorem any_near (m : Grid) (i k n : Nat) (hk : k < n) : (nearL m i n).any (fun x => decide ((k : Int) = x)) = besideE m i k := by
  cases hb : besideE m i k
  · refine Bool.eq_false_iff.2 fun h => ?_
    obtain ⟨x, hx, hkx⟩ := List.any_eq_true.1 h
    have hkx : (k : Int) = x := by simpa using hkx
    subst hkx
    obtain ⟨j, h1, h2, h3⟩ := (nearL_mem m i _ n).1 hx
    have : k = j := by omega
    subst this
    rw [hb] at h3
    cases h3
  · exact List.any_eq_true.2 ⟨(k : Int), (nearL_mem m i _ n).2 ⟨k, hk, rfl, hb⟩, by simp⟩

/-- How much two cells may differ, or the error. -/
def allowedR (g : Ground) (m : Grid) (a b : Int) : Int × Int :=
  if griddedE g [m] ≠ 0 then (0, griddedE g [m]) else if ¬ ((0 ≤ a ∧ a < m.levels.length) ∧ 0 ≤ b ∧ b < m.levels.length) then (0, 6)
  else if besideE m a.toNat b.toNat = true then (allowE g m a.toNat b.toNat, 0) else (0, 3)

theorem c58 (g : Ground) (hs : g.soils.length < 1000000000000) (hb : g.borings.length < 1000000000000) (m : Grid) (hl : m.levels.length < 1000000000000) (a b : Int) :
    Contract Try.prog 58 [.agg (encGround g), .agg (encGrid m), .int .i64 a, .int .i64 b] (.ret (.tup [.int .i64 (allowedR g m a b).1, .int .i64 (allowedR g m a b).2])) := by
  have h93 := c93 g hs hb [m] (by simp) (by simpa using hl)
  by_cases h : griddedE g [m] = 0
  · obtain ⟨h1, h2⟩ := gridded1 h
    have hm := okGrid h2
    have hg := okG h1
    rw [h] at h93
    by_cases hr : (0 ≤ a ∧ a < m.levels.length) ∧ 0 ≤ b ∧ b < m.levels.length
    · obtain ⟨i, rfl⟩ := Int.eq_ofNat_of_zero_le hr.1.1
      obtain ⟨k, rfl⟩ := Int.eq_ofNat_of_zero_le hr.2.1
      have hi : i < m.levels.length := by omega
      have hk : k < m.levels.length := by omega
      have hsm := hm.small
      have hnl := nearL_len m i m.levels.length
      have e : allowedR g m i k = if besideE m i k = true then (allowE g m i k, 0) else (0, 3) := by
        unfold allowedR; rw [if_neg (by simp [h]), if_neg (by omega)]; rfl
      have h109 := c109 (nearL m i m.levels.length) (by omega) k
      rw [any_near m i k _ hk] at h109
      rw [e]
      refine contract_of mix Try.func58 rfl rfl (by rw [Try.ntmps58]; exact Nat.le_of_ble_eq_true rfl) ?_; rw [Try.results58, Try.ntmps58]; simp only [argsE, Nat.reduceAdd]
      repeat' first
           | (with_reducible apply go_op)
           | (with_reducible apply go_next)
           | ((with_reducible (show evOp _ _ _ _ _ _)); first
             | ((with_reducible (show evOp _ (.move _) _ _ _ _)) ; first | ((with_reducible apply go_mv_int); rfl; rfl) | ((with_reducible apply go_mv_bool); rfl; rfl))
             | ((with_reducible apply go_as))
             | ((with_reducible (show evOp _ (.load _ _) _ _ _ _)) ; first | ((with_reducible apply go_ld_agg); rfl; rfl; rfl; rfl) | ((with_reducible apply go_load_own); rfl; rfl; rfl; rfl))
             | (((with_reducible apply go_fieldAddr_own); rfl; rfl; rfl))
             | ((with_reducible (show evOp _ (.binOp _ _ _ _ _) _ _ _ _)) ; first | ((with_reducible apply go_cmp); rfl; rfl; rfl; rfl) | ((with_reducible apply go_sub); rfl; rfl; rfl; omega))
             | ((with_reducible (show evOp _ (.call _) _ _ _ _)) ; first | ((with_reducible apply go_len); rfl; rfl) | ((with_reducible apply go_fn_int); rfl; (exact h93); rfl) | ((with_reducible apply go_fn_bool); rfl; (exact c108 _ _ _); rfl) | ((with_reducible apply (go_fn_agf (cs := encGrid m))); rfl; (exact c94 g hg hs m hm h2); (exact scalInt); rfl; rfl; rfl; rfl; rfl) | ((with_reducible apply go_fn_fr); (exact purL_agf (cs := encGrid m) rfl (by simp) rfl rfl rfl); (exact c105 g m hm h2 i hi); (exact scalInt); rfl) | ((with_reducible apply go_fn_bool); (exact purL_os rfl (by simp) rfl); (exact h109); rfl) | ((with_reducible apply go_fn_int); (exact purL_agf (cs := encGrid m) rfl (by simp; try assumption) rfl rfl rfl); (exact c106 g hg m hm i k hi hk); rfl))
             | (((with_reducible apply go_st_agg); rfl; rfl; rfl; rfl; rfl; rfl; rfl))
             | (((with_reducible apply go_not); rfl; rfl))
             | (((with_reducible apply go_pick); rfl; rfl; rfl))
             | (((with_reducible apply go_bd1_agg); rfl; rfl; rfl; rfl))
             | (((with_reducible apply go_bx_agg); rfl; rfl; (exact Nat.le_of_ble_eq_true rfl); rfl; rfl))
             | (((with_reducible apply go_alloc); rfl; rfl; rfl))
             | (((with_reducible apply go_bs1_agg); rfl; rfl; rfl; rfl; rfl; rfl)))
           | ((with_reducible (show evOps _ _ _ _ _ _)); first
             | (with_reducible apply go_nil)
             | ((with_reducible apply go_run); rfl; rfl)
             | ((with_reducible apply go_pass); rfl; rfl; rfl)
             | (((with_reducible apply go_guard); rfl) <;> (intro h; simp only [h, Bool.not_true, Bool.not_false]; (try with_reducible (refine ⟨rfl, ?_⟩)); try simp only [decide_eq_true_eq, decide_eq_false_iff_not, Bool.not_eq_true', Bool.not_eq_false', Bool.not_true, Bool.not_false] at h; try exact absurd trivial h)))
           | ((with_reducible (show ev _ _ _ _)); first
             | (with_reducible apply go_seq)
             | (with_reducible apply go_region)
             | ((with_reducible apply go_cond_t); rfl; rfl)
             | ((with_reducible apply go_cond_f); rfl; rfl)
             | (((with_reducible apply go_cond); rfl) <;> (intro h; simp only [h]; try simp only [decide_eq_true_eq, decide_eq_false_iff_not, Bool.not_eq_true', Bool.not_eq_false', Bool.not_true, Bool.not_false] at h; try exact absurd trivial h))
             | (with_reducible apply go_ret)
             | (with_reducible apply go_skipc))
           | (with_reducible apply go_kseq)
           | (with_reducible apply go_kseq_ret)
           | ((with_reducible apply end_t2); rfl; rfl; rfl; rfl)
      all_goals first
        | (exfalso; omega)
        | (rw [if_pos ‹besideE m i k = true›]; rfl)
        | (rw [if_neg (by rw [‹besideE m i k = false›]; simp)]; rfl)
    · have e : allowedR g m a b = (0, 6) := by
        unfold allowedR; rw [if_neg (by simp [h]), if_pos hr]
      rw [e]
      refine contract_of mix Try.func58 rfl rfl (by rw [Try.ntmps58]; exact Nat.le_of_ble_eq_true rfl) ?_; rw [Try.results58, Try.ntmps58]; simp only [argsE, Nat.reduceAdd]
      repeat' first
           | (with_reducible apply go_op)
           | (with_reducible apply go_next)
           | ((with_reducible (show evOp _ _ _ _ _ _)); first
             | ((with_reducible (show evOp _ (.move _) _ _ _ _)) ; first | ((with_reducible apply go_mv_int); rfl; rfl) | ((with_reducible apply go_mv_bool); rfl; rfl))
             | ((with_reducible apply go_as))
             | ((with_reducible (show evOp _ (.load _ _) _ _ _ _)) ; first | ((with_reducible apply go_ld_agg); rfl; rfl; rfl; rfl) | ((with_reducible apply go_load_own); rfl; rfl; rfl; rfl))
             | (((with_reducible apply go_fieldAddr_own); rfl; rfl; rfl))
             | ((with_reducible (show evOp _ (.binOp _ _ _ _ _) _ _ _ _)) ; first | ((with_reducible apply go_cmp); rfl; rfl; rfl; rfl) | ((with_reducible apply go_sub); rfl; rfl; rfl; omega))
             | ((with_reducible (show evOp _ (.call _) _ _ _ _)) ; first | ((with_reducible apply go_len); rfl; rfl) | ((with_reducible apply go_fn_int); rfl; (exact h93); rfl) | ((with_reducible apply go_fn_bool); rfl; (exact c108 _ _ _); rfl))
             | (((with_reducible apply go_not); rfl; rfl))
             | (((with_reducible apply go_pick); rfl; rfl; rfl))
             | (((with_reducible apply go_bd1_agg); rfl; rfl; rfl; rfl))
             | (((with_reducible apply go_bx_agg); rfl; rfl; (exact Nat.le_of_ble_eq_true rfl); rfl; rfl))
             | (((with_reducible apply go_bs1_agg); rfl; rfl; rfl; rfl; rfl; rfl)))
           | ((with_reducible (show evOps _ _ _ _ _ _)); first
             | (with_reducible apply go_nil)
             | ((with_reducible apply go_run); rfl; rfl)
             | ((with_reducible apply go_pass); rfl; rfl; rfl)
             | (((with_reducible apply go_guard); rfl) <;> (intro h; simp only [h, Bool.not_true, Bool.not_false]; (try with_reducible (refine ⟨rfl, ?_⟩)); try simp only [decide_eq_true_eq, decide_eq_false_iff_not, Bool.not_eq_true', Bool.not_eq_false', Bool.not_true, Bool.not_false] at h; try exact absurd trivial h)))
           | ((with_reducible (show ev _ _ _ _)); first
             | (with_reducible apply go_seq)
             | (with_reducible apply go_region)
             | ((with_reducible apply go_cond_t); rfl; rfl)
             | ((with_reducible apply go_cond_f); rfl; rfl)
             | (((with_reducible apply go_cond); rfl) <;> (intro h; simp only [h]; try simp only [decide_eq_true_eq, decide_eq_false_iff_not, Bool.not_eq_true', Bool.not_eq_false', Bool.not_true, Bool.not_false] at h; try exact absurd trivial h))
             | (with_reducible apply go_ret)
             | (with_reducible apply go_skipc))
           | (with_reducible apply go_kseq)
           | (with_reducible apply go_kseq_ret)
           | ((with_reducible apply end_t2); rfl; rfl; rfl; rfl)
      all_goals first
        | (exfalso; omega)
        | rfl
  · have e : allowedR g m a b = (0, griddedE g [m]) := by
      unfold allowedR; rw [if_pos h]
    rw [e]
    refine contract_of mix Try.func58 rfl rfl (by rw [Try.ntmps58]; exact Nat.le_of_ble_eq_true rfl) ?_; rw [Try.results58, Try.ntmps58]; simp only [argsE, Nat.reduceAdd]
    repeat' first
           | (with_reducible apply go_op)
           | (with_reducible apply go_next)
           | ((with_reducible (show evOp _ _ _ _ _ _)); first
             | (((with_reducible apply go_mv_int); rfl; rfl))
             | ((with_reducible apply go_as))
             | ((with_reducible (show evOp _ (.load _ _) _ _ _ _)) ; first | ((with_reducible apply go_ld_agg); rfl; rfl; rfl; rfl) | ((with_reducible apply go_load_own); rfl; rfl; rfl; rfl))
             | (((with_reducible apply go_fieldAddr_own); rfl; rfl; rfl))
             | ((with_reducible (show evOp _ (.binOp _ _ _ _ _) _ _ _ _)) ; first | ((with_reducible apply go_cmp); rfl; rfl; rfl; rfl) | ((with_reducible apply go_sub); rfl; rfl; rfl; omega))
             | ((with_reducible (show evOp _ (.call _) _ _ _ _)) ; first | ((with_reducible apply go_len); rfl; rfl) | ((with_reducible apply go_fn_int); rfl; (exact h93); rfl))
             | (((with_reducible apply go_bx_agg); rfl; rfl; (exact Nat.le_of_ble_eq_true rfl); rfl; rfl))
             | (((with_reducible apply go_bs1_agg); rfl; rfl; rfl; rfl; rfl; rfl)))
           | ((with_reducible (show evOps _ _ _ _ _ _)); first
             | (with_reducible apply go_nil))
           | ((with_reducible (show ev _ _ _ _)); first
             | (with_reducible apply go_seq)
             | (with_reducible apply go_region)
             | (((with_reducible apply go_cond); rfl) <;> (intro h; simp only [h]; try simp only [decide_eq_true_eq, decide_eq_false_iff_not, Bool.not_eq_true', Bool.not_eq_false', Bool.not_true, Bool.not_false] at h; try exact absurd trivial h))
             | (with_reducible apply go_ret)
             | (with_reducible apply go_skipc))
           | (with_reducible apply go_kseq)
           | (with_reducible apply go_kseq_ret)
           | ((with_reducible apply end_t2); rfl; rfl; rfl; rfl)
    all_goals first
      | rfl
      | exact absurd ‹griddedE g [m] = 0› h
      | (exfalso; omega)

theorem gridded1_eq (g : Ground) (m : Grid) : firstOf [groundE g, gridE m] = griddedE g [m] := by
  unfold griddedE
  simp only [List.map_cons, List.map_nil, firstOf]
  (repeat' split) <;> first | rfl | omega

instance teq92 : TEq Try.prog 92 [.i, .i, .i] := ⟨by kernel_rfl⟩
theorem slight13 (g : Ground) (m : Grid) (a b : Int) (hs : slightE g = false) : Contract Try.prog 13 [.agg (encGround g), .agg (encGrid m), .agg [.int .i64 a, .int .i64 b]] (.ret (.bool true)) := by
  have h19 := c19 g
  rw [hs] at h19
  refine contract_of mix Try.func13 rfl rfl (by rw [Try.ntmps13]; exact Nat.le_of_ble_eq_true rfl) ?_; rw [Try.results13, Try.ntmps13]; simp only [argsE, Nat.reduceAdd]
  repeat' first
           | (with_reducible apply go_op)
           | (with_reducible apply go_next)
           | ((with_reducible (show evOp _ _ _ _ _ _)); first
             | (((with_reducible apply go_mv_bool); rfl; rfl))
             | ((with_reducible apply go_as))
             | (((with_reducible apply go_ld_agg); rfl; rfl; rfl; rfl))
             | ((with_reducible (show evOp _ (.call _) _ _ _ _)) ; first | ((with_reducible apply go_fn_bool); rfl; (exact c18); rfl) | ((with_reducible apply go_fn_bool); rfl; (exact h19); rfl))
             | (((with_reducible apply go_not); rfl; rfl))
             | (((with_reducible apply go_pick); rfl; rfl; rfl))
             | (((with_reducible apply go_bx_agg); rfl; rfl; (exact Nat.le_of_ble_eq_true rfl); rfl; rfl)))
           | ((with_reducible (show evOps _ _ _ _ _ _)); first
             | (with_reducible apply go_nil)
             | ((with_reducible apply go_pass); rfl; rfl; rfl))
           | ((with_reducible (show ev _ _ _ _)); first
             | (with_reducible apply go_seq)
             | (with_reducible apply go_region)
             | ((with_reducible apply go_cond_t); rfl; rfl)
             | ((with_reducible apply go_cond_f); rfl; rfl)
             | (with_reducible apply go_ret)
             | (with_reducible apply go_skipc))
           | (with_reducible apply go_kseq)
           | (with_reducible apply go_kseq_ret)
           | ((with_reducible apply end_bool); rfl)
           | (with_reducible rfl)

theorem bad13 (g : Ground) (m : Grid) (hl : m.levels.length < 1000000000000) (a b : Int) (hs : slightE g = true) (hge : griddedE g [m] ≠ 0) : Contract Try.prog 13 [.agg (encGround g), .agg (encGrid m), .agg [.int .i64 a, .int .i64 b]] (.ret (.bool true)) := by
  have h19 := c19 g
  rw [hs] at h19
  have hl2 := slight_len hs
  have hsl : g.soils.length < 1000000000000 := by omega
  have hbl : g.borings.length < 1000000000000 := by omega
  have h24 := c24 m
  have h58 := c58 g hsl hbl m hl a b
  have h39 := c39 g hsl hbl m hl
  have h23 := c23 g hsl hbl
  have h28 := c28 m hl
  have h27 : Contract Try.prog 27 [.sl [[.int .i64 (groundE g)], [.int .i64 (gridE m)]]] (.ret (.int .i64 (griddedE g [m]))) := gridded1_eq g m ▸ c27 [groundE g, gridE m] (by simp)
  have e : allowedR g m a b = (0, griddedE g [m]) := by
    unfold allowedR; rw [if_pos hge]
  rw [e] at h58
  rw [show steepsR g m = [] from if_neg hge] at h39
  generalize griddedE g [m] = ge at *
  generalize groundE g = g1 at *
  generalize gridE m = g2 at *
  refine contract_of mix Try.func13 rfl rfl (by rw [Try.ntmps13]; exact Nat.le_of_ble_eq_true rfl) ?_; rw [Try.results13, Try.ntmps13]; simp only [argsE, Nat.reduceAdd]
  repeat' first
           | (with_reducible apply go_op)
           | (with_reducible apply go_next)
           | ((with_reducible (show evOp _ _ _ _ _ _)); first
             | ((with_reducible (show evOp _ (.move _) _ _ _ _)) ; first | ((with_reducible apply go_mv_int); rfl; rfl) | ((with_reducible apply go_mv_bool); rfl; rfl) | ((with_reducible apply go_mv_os); rfl; rfl) | ((with_reducible apply go_mv_tup); rfl; rfl))
             | ((with_reducible apply go_as))
             | ((with_reducible (show evOp _ (.load _ _) _ _ _ _)) ; first | ((with_reducible apply go_ld_agg); rfl; rfl; rfl; rfl) | ((with_reducible apply go_load_own); rfl; rfl; rfl; rfl))
             | (((with_reducible apply go_index_arr); rfl; rfl; rfl; rfl; omega))
             | (((with_reducible apply go_cmp); rfl; rfl; rfl; rfl))
             | ((with_reducible (show evOp _ (.call _) _ _ _ _)) ; first | ((with_reducible apply go_len_own); rfl; rfl; rfl) | ((with_reducible apply go_fn_bool); rfl; (exact c18); rfl) | ((with_reducible apply go_fn_bool); rfl; (exact h19); rfl) | ((with_reducible apply go_fn_bool); rfl; (exact h24); rfl) | ((with_reducible apply go_fn_plain); rfl; (exact h58); rfl; (exact Nat.le_of_ble_eq_true rfl); rfl) | ((with_reducible apply go_fn_fr2); rfl; (exact h39); (exact scalSteep); rfl; rfl) | ((with_reducible apply go_fn_int); rfl; (exact h23); rfl) | ((with_reducible apply go_fn_int); rfl; (exact h28); rfl) | ((with_reducible apply go_fn_int); rfl; (exact h27); rfl))
             | (((with_reducible apply go_not); rfl; rfl))
             | (((with_reducible apply go_extract); rfl; rfl))
             | (((with_reducible apply go_pick); rfl; rfl; rfl))
             | (((with_reducible apply go_bx_agg); rfl; rfl; (exact Nat.le_of_ble_eq_true rfl); rfl; rfl))
             | (((with_reducible apply go_bs2_int); rfl; rfl; rfl; rfl)))
           | ((with_reducible (show evOps _ _ _ _ _ _)); first
             | (with_reducible apply go_nil)
             | ((with_reducible apply go_run); rfl; rfl)
             | (((with_reducible apply go_guard); rfl) <;> (intro h; simp only [h, Bool.not_true, Bool.not_false]; (try with_reducible (refine ⟨rfl, ?_⟩)); try simp only [decide_eq_true_eq, decide_eq_false_iff_not, Bool.not_eq_true', Bool.not_eq_false', Bool.not_true, Bool.not_false] at h; try exact absurd trivial h))
             | ((with_reducible apply go_pre); rfl)
             | (with_reducible apply go_pre_nil)
             | ((with_reducible apply go_suf); rfl)
             | (with_reducible apply go_suf_nil))
           | ((with_reducible (show ev _ _ _ _)); first
             | (with_reducible apply go_seq)
             | (with_reducible apply go_region)
             | ((with_reducible apply go_cond_f); rfl; rfl)
             | (((with_reducible apply go_cond); rfl) <;> (intro h; simp only [h]; try simp only [decide_eq_true_eq, decide_eq_false_iff_not, Bool.not_eq_true', Bool.not_eq_false', Bool.not_true, Bool.not_false] at h; try exact absurd trivial h))
             | ((with_reducible apply go_order); kernel_rfl; rfl)
             | (with_reducible apply go_ret)
             | (with_reducible apply go_skipc))
           | (with_reducible apply go_kseq)
           | (with_reducible apply go_ksuf)
           | (with_reducible apply go_kseq_ret)
           | ((with_reducible apply end_bool); rfl)
           | (with_reducible rfl)
  all_goals first | exact absurd ‹ge = 0› hge | simp

theorem good13 (g : Ground) (m : Grid) (hl : m.levels.length < 1000000000000) (a b : Int) (hs : slightE g = true) (hge : griddedE g [m] = 0) : Contract Try.prog 13 [.agg (encGround g), .agg (encGrid m), .agg [.int .i64 a, .int .i64 b]] (.ret (.bool true)) := by
  have h19 := c19 g
  rw [hs] at h19
  have hl2 := slight_len hs
  have hsl : g.soils.length < 1000000000000 := by omega
  have hbl : g.borings.length < 1000000000000 := by omega
  have h24 := c24 m
  have h58 := c58 g hsl hbl m hl a b
  have h39 := c39 g hsl hbl m hl
  have h23 := c23 g hsl hbl
  have h28 := c28 m hl
  have h27 : Contract Try.prog 27 [.sl [[.int .i64 (groundE g)], [.int .i64 (gridE m)]]] (.ret (.int .i64 (griddedE g [m]))) := gridded1_eq g m ▸ c27 [groundE g, gridE m] (by simp)
  obtain ⟨h1, h2⟩ := gridded1 hge
  have hm := okGrid h2
  have hg := okG h1
  rw [hge] at h39 h27
  have h59 := c59 g hg hsl m hm
  rw [show steepsR g m = steepL g m m.levels.length from if_pos hge] at h39
  have hLl := steepL_len g m m.levels.length
  have hmul := Nat.mul_le_mul hm.small hm.small
  have hal : ∃ x : Int × Int, x = allowedR g m a b ∧ (if ¬ ((0 ≤ a ∧ a < m.levels.length) ∧ 0 ≤ b ∧ b < m.levels.length) then x = (0, 6) else if besideE m a.toNat b.toNat = true then x = (allowE g m a.toNat b.toNat, 0) else x = (0, 3)) := by
    refine ⟨_, rfl, ?_⟩
    by_cases hr : (0 ≤ a ∧ a < m.levels.length) ∧ 0 ≤ b ∧ b < m.levels.length
    · rw [if_neg (fun h => h hr)]
      by_cases hb : besideE m a.toNat b.toNat = true
      · rw [if_pos hb]; unfold allowedR; rw [if_neg (fun h => h hge), if_neg (fun h => h hr), if_pos hb]
      · rw [if_neg hb]; unfold allowedR; rw [if_neg (fun h => h hge), if_neg (fun h => h hr), if_neg hb]
    · rw [if_pos hr]; unfold allowedR; rw [if_neg (fun h => h hge), if_pos hr]
  obtain ⟨x, hx, hal⟩ := hal
  rw [← hx] at h58
  generalize steepL g m m.levels.length = L at *
  generalize hg1 : groundE g = g1 at *
  generalize hg2 : gridE m = g2 at *
  refine contract_of mix Try.func13 rfl rfl (by rw [Try.ntmps13]; exact Nat.le_of_ble_eq_true rfl) ?_; rw [Try.results13, Try.ntmps13]; simp only [argsE, Nat.reduceAdd]
  repeat' first
           | (with_reducible apply go_op)
           | (with_reducible apply go_next)
           | ((with_reducible (show evOp _ _ _ _ _ _)); first
             | ((with_reducible (show evOp _ (.move _) _ _ _ _)) ; first | ((with_reducible apply go_mv_int); rfl; rfl) | ((with_reducible apply go_mv_bool); rfl; rfl) | ((with_reducible apply go_mv_os); rfl; rfl) | ((with_reducible apply go_mv_tup); rfl; rfl))
             | ((with_reducible apply go_as))
             | ((with_reducible (show evOp _ (.load _ _) _ _ _ _)) ; first | ((with_reducible apply go_ld_agg); rfl; rfl; rfl; rfl) | ((with_reducible apply go_load_own); rfl; rfl; rfl; rfl))
             | (((with_reducible apply go_index_arr); rfl; rfl; rfl; rfl; omega))
             | (((with_reducible apply go_cmp); rfl; rfl; rfl; rfl))
             | ((with_reducible (show evOp _ (.call _) _ _ _ _)) ; first | ((with_reducible apply go_len_own); rfl; rfl; rfl) | ((with_reducible apply go_fn_bool); rfl; (exact c18); rfl) | ((with_reducible apply go_fn_bool); rfl; (exact h19); rfl) | ((with_reducible apply go_fn_bool); rfl; (exact h24); rfl) | ((with_reducible apply go_fn_plain); rfl; (exact h58); rfl; (exact Nat.le_of_ble_eq_true rfl); rfl) | ((with_reducible apply go_fn_fr2); rfl; (exact h39); (exact scalSteep); rfl; rfl) | ((with_reducible apply go_fn_int); rfl; (exact h23); rfl) | ((with_reducible apply go_fn_int); rfl; (exact h28); rfl) | ((with_reducible apply go_fn_int); rfl; (exact h27); rfl) | ((with_reducible apply go_fn_fr); rfl; (exact h59); (exact scalSteep); rfl))
             | (((with_reducible apply go_not); rfl; rfl))
             | (((with_reducible apply go_extract); rfl; rfl))
             | (((with_reducible apply go_pick); rfl; rfl; rfl))
             | (((with_reducible apply go_bx_agg); rfl; rfl; (exact Nat.le_of_ble_eq_true rfl); rfl; rfl))
             | (((with_reducible apply go_bs2_int); rfl; rfl; rfl; rfl)))
           | ((with_reducible (show evOps _ _ _ _ _ _)); first
             | (with_reducible apply go_nil)
             | ((with_reducible apply go_run); rfl; rfl)
             | ((with_reducible apply go_pre); rfl)
             | (with_reducible apply go_pre_nil)
             | ((with_reducible apply go_suf); rfl)
             | (with_reducible apply go_suf_nil))
           | ((with_reducible (show ev _ _ _ _)); first
             | (with_reducible apply go_seq)
             | (with_reducible apply go_region)
             | ((with_reducible apply go_cond_f); rfl; rfl)
             | (((with_reducible apply go_cond); rfl) <;> (intro h; simp only [h]; try simp only [decide_eq_true_eq, decide_eq_false_iff_not, Bool.not_eq_true', Bool.not_eq_false', Bool.not_true, Bool.not_false] at h; try exact absurd trivial h))
             | ((with_reducible apply go_order); kernel_rfl; rfl)
             | (with_reducible apply go_ret)
             | (with_reducible apply go_skipc)
             | (with_reducible apply go_block))
           | (with_reducible apply go_kseq)
           | (with_reducible apply go_ksuf)
           | (with_reducible apply go_kseq_ret)
           | ((with_reducible apply end_bool); rfl)
           | (with_reducible rfl)
  all_goals try exact absurd rfl ‹_›
  refine go_count L.length (fun i => ⟨[(15, .int .i64 i), (11, .os 2 0 L.length), (14, .os 3 0 L.length), (3, .op 0 0 0), (4, .op 1 0 0), (7, .int .i64 a), (8, .int .i64 b), (9, .int .i64 x.1), (10, .int .i64 x.2)], [(2, ⟨3, true, L.map encSteep⟩), (3, ⟨3, true, L.map encSteep⟩), (0, ⟨2, true, [encGround g]⟩), (1, ⟨6, true, [encGrid m]⟩)], 32, 134⟩) (fun _ => True)
    (entails_eq (nx := 32) (k := 1) (ns := []) (ks := [15, 11, 14, 3, 4, 7, 8, 9, 10]) [(1024, 2), (1568, 3), (0, 0), (32, 1)] rfl (by simp) (by kernel_rfl)) trivial ?_
  intro i hi _
  clear h58 h39 h59 h23 h28 h27 h24 h19
  by_cases hlt : i < L.length
  · repeat' first
           | (with_reducible apply go_op)
           | (with_reducible apply go_next)
           | ((with_reducible (show evOp _ _ _ _ _ _)); first
             | ((with_reducible (show evOp _ (.move _) _ _ _ _)) ; first | ((with_reducible apply go_mv_int); rfl; rfl) | ((with_reducible apply go_mv_bool); rfl; rfl) | ((with_reducible apply go_mv_os); rfl; rfl))
             | ((with_reducible apply go_as))
             | ((with_reducible (show evOp _ (.load _ _) _ _ _ _)) ; first | ((with_reducible apply go_load_om); rfl; rfl; rfl; rfl; rotate_left; assumption) | ((with_reducible apply go_ld_agg); rfl; rfl; rfl; rfl))
             | (((with_reducible apply go_index_om); rfl; rfl; rfl; (with_reducible rfl); rfl; rfl; omega; (intro hlt)))
             | ((with_reducible (show evOp _ (.binOp _ _ _ _ _) _ _ _ _)) ; first | ((with_reducible apply go_cmp); rfl; rfl; rfl; rfl) | ((with_reducible apply go_add); rfl; rfl; rfl; omega) | ((with_reducible apply go_neq_agg); rfl; rfl; rfl; rfl))
             | (((with_reducible apply go_len_own); rfl; rfl; rfl)))
           | ((with_reducible (show evOps _ _ _ _ _ _)); first
             | (with_reducible apply go_nil)
             | ((with_reducible apply go_pre); rfl)
             | (with_reducible apply go_pre_nil)
             | ((with_reducible apply go_suf); rfl)
             | (with_reducible apply go_suf_nil))
           | ((with_reducible (show ev _ _ _ _)); first
             | (with_reducible apply go_seq)
             | (with_reducible apply go_region)
             | (((with_reducible apply go_cond); rfl) <;> (intro h; simp only [h]; try simp only [decide_eq_true_eq, decide_eq_false_iff_not, Bool.not_eq_true', Bool.not_eq_false', Bool.not_true, Bool.not_false] at h; try exact absurd trivial h))
             | ((with_reducible apply go_order); kernel_rfl; rfl)
             | (with_reducible apply go_ret)
             | (with_reducible apply go_skipc)
             | (with_reducible apply go_block)
             | (with_reducible apply go_exit))
           | (with_reducible apply go_kseq)
           | (with_reducible apply go_ksuf)
           | (with_reducible apply go_kseq_ret)
           | (with_reducible apply go_kblock)
           | (with_reducible apply go_kblock_ret)
           | (with_reducible apply go_kblock_exit)
           | (with_reducible apply go_kseq_exit)
           | ((with_reducible apply end_bool); rfl)
    all_goals first
      | exact absurd hlt (by omega)
      | (refine ⟨hlt, trivial, ?_⟩; exact entails_eq (nx := 32) (k := 1) (ns := []) (ks := [15, 11, 14, 3, 4, 7, 8, 9, 10]) [(2, 2), (3, 3), (0, 0), (1, 1)] rfl (by simp) (by kernel_rfl))
      | (exfalso; simp_all; done)
      | trace_state
  · have h60a := c60 m hl a
    have h60b := c60 m hl b
    by_cases hr : (0 ≤ a ∧ a < m.levels.length) ∧ 0 ≤ b ∧ b < m.levels.length
    · have h61 := c61L m hm a b hr.1 hr.2
      have h62 := c62L g hg hsl m hm a b hr.1 hr.2
      rw [if_neg (by simp [hr])] at hal
      rw [decide_eq_true hr.1] at h60a
      rw [decide_eq_true hr.2] at h60b
      cases hbe : besideE m a.toNat b.toNat
      · rw [if_neg (by simp [hbe])] at hal
        rw [hbe] at h61
        rw [hal]
        repeat' first
           | (with_reducible apply go_op)
           | (with_reducible apply go_next)
           | ((with_reducible (show evOp _ _ _ _ _ _)); first
             | ((with_reducible (show evOp _ (.move _) _ _ _ _)) ; first | ((with_reducible apply go_mv_int); rfl; rfl) | ((with_reducible apply go_mv_bool); rfl; rfl) | ((with_reducible apply go_mv_os); rfl; rfl))
             | ((with_reducible apply go_as))
             | ((with_reducible (show evOp _ (.load _ _) _ _ _ _)) ; first | ((with_reducible apply go_load_om); rfl; rfl; rfl; rfl; rotate_left; assumption) | ((with_reducible apply go_ld_agg); rfl; rfl; rfl; rfl))
             | (((with_reducible apply go_index_om); rfl; rfl; rfl; (with_reducible rfl); rfl; rfl; omega; (intro hlt)))
             | ((with_reducible (show evOp _ (.binOp _ _ _ _ _) _ _ _ _)) ; first | ((with_reducible apply go_cmp); rfl; rfl; rfl; rfl) | ((with_reducible apply go_add); rfl; rfl; rfl; omega) | ((with_reducible apply go_neq_agg); rfl; rfl; rfl; rfl))
             | ((with_reducible (show evOp _ (.call _) _ _ _ _)) ; first | ((with_reducible apply go_len_own); rfl; rfl; rfl) | ((with_reducible apply go_fn_bool); rfl; (exact h60a); rfl) | ((with_reducible apply go_fn_bool); rfl; (exact h60b); rfl) | ((with_reducible apply go_fn_bool); rfl; (exact h61); rfl))
             | (((with_reducible apply go_not); rfl; rfl))
             | (((with_reducible apply go_pick); rfl; rfl; rfl)))
           | ((with_reducible (show evOps _ _ _ _ _ _)); first
             | (with_reducible apply go_nil)
             | ((with_reducible apply go_run); rfl; rfl)
             | ((with_reducible apply go_pre); rfl)
             | (with_reducible apply go_pre_nil)
             | ((with_reducible apply go_suf); rfl)
             | (with_reducible apply go_suf_nil))
           | ((with_reducible (show ev _ _ _ _)); first
             | (with_reducible apply go_seq)
             | (with_reducible apply go_region)
             | ((with_reducible apply go_cond_t); rfl; rfl)
             | ((with_reducible apply go_cond_f); rfl; rfl)
             | (((with_reducible apply go_cond); rfl) <;> (intro h; simp only [h]; try simp only [decide_eq_true_eq, decide_eq_false_iff_not, Bool.not_eq_true', Bool.not_eq_false', Bool.not_true, Bool.not_false] at h; try exact absurd trivial h))
             | ((with_reducible apply go_order); kernel_rfl; rfl)
             | (with_reducible apply go_ret)
             | (with_reducible apply go_skipc)
             | (with_reducible apply go_block)
             | (with_reducible apply go_exit))
           | (with_reducible apply go_kseq)
           | (with_reducible apply go_ksuf)
           | (with_reducible apply go_kseq_ret)
           | (with_reducible apply go_kblock)
           | (with_reducible apply go_kblock_ret)
           | (with_reducible apply go_kblock_exit)
           | (with_reducible apply go_kseq_exit)
           | ((with_reducible apply end_bool); rfl)
        all_goals first | exact absurd ‹(i : Int) < _› (by omega) | rfl
      · rw [if_pos hbe] at hal
        rw [hbe] at h61
        rw [hal]
        generalize allowE g m a.toNat b.toNat = al at *
        repeat' first
           | (with_reducible apply go_op)
           | (with_reducible apply go_next)
           | ((with_reducible (show evOp _ _ _ _ _ _)); first
             | ((with_reducible (show evOp _ (.move _) _ _ _ _)) ; first | ((with_reducible apply go_mv_int); rfl; rfl) | ((with_reducible apply go_mv_bool); rfl; rfl) | ((with_reducible apply go_mv_os); rfl; rfl))
             | ((with_reducible apply go_as))
             | ((with_reducible (show evOp _ (.load _ _) _ _ _ _)) ; first | ((with_reducible apply go_load_om); rfl; rfl; rfl; rfl; rotate_left; assumption) | ((with_reducible apply go_ld_agg); rfl; rfl; rfl; rfl))
             | (((with_reducible apply go_index_om); rfl; rfl; rfl; (with_reducible rfl); rfl; rfl; omega; (intro hlt)))
             | ((with_reducible (show evOp _ (.binOp _ _ _ _ _) _ _ _ _)) ; first | ((with_reducible apply go_cmp); rfl; rfl; rfl; rfl) | ((with_reducible apply go_add); rfl; rfl; rfl; omega) | ((with_reducible apply go_neq_agg); rfl; rfl; rfl; rfl))
             | ((with_reducible (show evOp _ (.call _) _ _ _ _)) ; first | ((with_reducible apply go_len_own); rfl; rfl; rfl) | ((with_reducible apply go_fn_bool); rfl; (exact h60a); rfl) | ((with_reducible apply go_fn_bool); rfl; (exact h60b); rfl) | ((with_reducible apply go_fn_bool); rfl; (exact h61); rfl) | ((with_reducible apply go_fn_int); rfl; (exact h62); rfl))
             | (((with_reducible apply go_not); rfl; rfl))
             | (((with_reducible apply go_pick); rfl; rfl; rfl)))
           | ((with_reducible (show evOps _ _ _ _ _ _)); first
             | (with_reducible apply go_nil)
             | ((with_reducible apply go_run); rfl; rfl)
             | ((with_reducible apply go_pre); rfl)
             | (with_reducible apply go_pre_nil)
             | ((with_reducible apply go_suf); rfl)
             | (with_reducible apply go_suf_nil))
           | ((with_reducible (show ev _ _ _ _)); first
             | (with_reducible apply go_seq)
             | (with_reducible apply go_region)
             | ((with_reducible apply go_cond_f); rfl; rfl)
             | (((with_reducible apply go_cond); rfl) <;> (intro h; simp only [h]; try simp only [decide_eq_true_eq, decide_eq_false_iff_not, Bool.not_eq_true', Bool.not_eq_false', Bool.not_true, Bool.not_false] at h; try exact absurd trivial h))
             | ((with_reducible apply go_order); kernel_rfl; rfl)
             | (with_reducible apply go_ret)
             | (with_reducible apply go_skipc)
             | (with_reducible apply go_block)
             | (with_reducible apply go_exit))
           | (with_reducible apply go_kseq)
           | (with_reducible apply go_ksuf)
           | (with_reducible apply go_kseq_ret)
           | (with_reducible apply go_kblock)
           | (with_reducible apply go_kblock_ret)
           | (with_reducible apply go_kblock_exit)
           | (with_reducible apply go_kseq_exit)
           | ((with_reducible apply end_bool); rfl)
        all_goals first | exact absurd ‹(i : Int) < _› (by omega) | simp
    · rw [if_pos hr] at hal
      rw [hal]
      repeat' first
           | (with_reducible apply go_op)
           | (with_reducible apply go_next)
           | ((with_reducible (show evOp _ _ _ _ _ _)); first
             | ((with_reducible (show evOp _ (.move _) _ _ _ _)) ; first | ((with_reducible apply go_mv_int); rfl; rfl) | ((with_reducible apply go_mv_bool); rfl; rfl) | ((with_reducible apply go_mv_os); rfl; rfl))
             | ((with_reducible apply go_as))
             | ((with_reducible (show evOp _ (.load _ _) _ _ _ _)) ; first | ((with_reducible apply go_load_om); rfl; rfl; rfl; rfl; rotate_left; assumption) | ((with_reducible apply go_ld_agg); rfl; rfl; rfl; rfl))
             | (((with_reducible apply go_index_om); rfl; rfl; rfl; (with_reducible rfl); rfl; rfl; omega; (intro hlt)))
             | ((with_reducible (show evOp _ (.binOp _ _ _ _ _) _ _ _ _)) ; first | ((with_reducible apply go_cmp); rfl; rfl; rfl; rfl) | ((with_reducible apply go_add); rfl; rfl; rfl; omega) | ((with_reducible apply go_neq_agg); rfl; rfl; rfl; rfl))
             | ((with_reducible (show evOp _ (.call _) _ _ _ _)) ; first | ((with_reducible apply go_len_own); rfl; rfl; rfl) | ((with_reducible apply go_fn_bool); rfl; (exact h60a); rfl) | ((with_reducible apply go_fn_bool); rfl; (exact h60b); rfl))
             | (((with_reducible apply go_not); rfl; rfl))
             | (((with_reducible apply go_pick); rfl; rfl; rfl)))
           | ((with_reducible (show evOps _ _ _ _ _ _)); first
             | (with_reducible apply go_nil)
             | ((with_reducible apply go_run); rfl; rfl)
             | ((with_reducible apply go_pass); rfl; rfl; rfl)
             | (((with_reducible apply go_guard); rfl) <;> (intro h; simp only [h, Bool.not_true, Bool.not_false]; (try with_reducible (refine ⟨rfl, ?_⟩)); try simp only [decide_eq_true_eq, decide_eq_false_iff_not, Bool.not_eq_true', Bool.not_eq_false', Bool.not_true, Bool.not_false] at h; try exact absurd trivial h))
             | ((with_reducible apply go_pre); rfl)
             | (with_reducible apply go_pre_nil)
             | ((with_reducible apply go_suf); rfl)
             | (with_reducible apply go_suf_nil))
           | ((with_reducible (show ev _ _ _ _)); first
             | (with_reducible apply go_seq)
             | (with_reducible apply go_region)
             | ((with_reducible apply go_cond_t); rfl; rfl)
             | (((with_reducible apply go_cond); rfl) <;> (intro h; simp only [h]; try simp only [decide_eq_true_eq, decide_eq_false_iff_not, Bool.not_eq_true', Bool.not_eq_false', Bool.not_true, Bool.not_false] at h; try exact absurd trivial h))
             | ((with_reducible apply go_order); kernel_rfl; rfl)
             | (with_reducible apply go_ret)
             | (with_reducible apply go_skipc)
             | (with_reducible apply go_block)
             | (with_reducible apply go_exit))
           | (with_reducible apply go_kseq)
           | (with_reducible apply go_ksuf)
           | (with_reducible apply go_kseq_ret)
           | (with_reducible apply go_kblock)
           | (with_reducible apply go_kblock_ret)
           | (with_reducible apply go_kblock_exit)
           | (with_reducible apply go_kseq_exit)
           | ((with_reducible apply end_bool); rfl)
      all_goals first | exact absurd ‹(i : Int) < _› (by omega) | rfl | (exfalso; omega)

/-- More cells than the law looks at. -/
theorem much13 (g : Ground) (m : Grid) (hl : m.levels.length ≤ 9223372036854775807) (a b : Int) (hs : slightE g = true) (hm : 30 < m.levels.length) : Contract Try.prog 13 [.agg (encGround g), .agg (encGrid m), .agg [.int .i64 a, .int .i64 b]] (.ret (.bool true)) := by
  have h19 := c19 g
  rw [hs] at h19
  have h24 : Contract Try.prog 24 [.agg (encGrid m)] (.ret (.bool false)) := by
    have := c24 m
    rwa [decide_eq_false (by omega)] at this
  refine contract_of mix Try.func13 rfl rfl (by rw [Try.ntmps13]; exact Nat.le_of_ble_eq_true rfl) ?_; rw [Try.results13, Try.ntmps13]; simp only [argsE, Nat.reduceAdd]
  repeat' first
           | (with_reducible apply go_op)
           | (with_reducible apply go_next)
           | ((with_reducible (show evOp _ _ _ _ _ _)); first
             | (((with_reducible apply go_mv_bool); rfl; rfl))
             | ((with_reducible apply go_as))
             | (((with_reducible apply go_ld_agg); rfl; rfl; rfl; rfl))
             | ((with_reducible (show evOp _ (.call _) _ _ _ _)) ; first | ((with_reducible apply go_fn_bool); rfl; (exact c18); rfl) | ((with_reducible apply go_fn_bool); rfl; (exact h19); rfl) | ((with_reducible apply go_fn_bool); rfl; (exact h24); rfl))
             | (((with_reducible apply go_not); rfl; rfl))
             | (((with_reducible apply go_pick); rfl; rfl; rfl))
             | (((with_reducible apply go_bx_agg); rfl; rfl; (exact Nat.le_of_ble_eq_true rfl); rfl; rfl)))
           | ((with_reducible (show evOps _ _ _ _ _ _)); first
             | (with_reducible apply go_nil)
             | ((with_reducible apply go_run); rfl; rfl))
           | ((with_reducible (show ev _ _ _ _)); first
             | (with_reducible apply go_seq)
             | (with_reducible apply go_region)
             | ((with_reducible apply go_cond_t); rfl; rfl)
             | ((with_reducible apply go_cond_f); rfl; rfl)
             | (with_reducible apply go_ret)
             | (with_reducible apply go_skipc))
           | (with_reducible apply go_kseq)
           | (with_reducible apply go_kseq_ret)
           | ((with_reducible apply end_bool); rfl)
           | (with_reducible rfl)

theorem c13 (g : Ground) (m : Grid) (hl : m.levels.length ≤ 9223372036854775807) (a b : Int) : Contract Try.prog 13 [.agg (encGround g), .agg (encGrid m), .agg [.int .i64 a, .int .i64 b]] (.ret (.bool true)) := by
  cases hs : slightE g
  · exact slight13 g m a b hs
  · by_cases hm : 30 < m.levels.length
    · exact much13 g m hl a b hs hm
    · by_cases hge : griddedE g [m] = 0
      · exact good13 g m (by omega) a b hs hge
      · exact bad13 g m (by omega) a b hs hge
end Go.Pv.Soil

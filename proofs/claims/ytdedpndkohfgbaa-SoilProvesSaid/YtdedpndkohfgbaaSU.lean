import Derived.Test.YtdedpndkohfgbaaProg
import Derived.Test.YtdedpndkohfgbaaSP
import Derived.KernelRfl
import Derived.Test.YtdedpndkohfgbaaSX
/- Part of the proofs over Ytdedpndkohfgbaa: S48, S49. -/
set_option linter.unusedVariables false
set_option linter.unusedSimpArgs false
set_option linter.unnecessarySimpa false
open Go Go.Proofs Go.Pv
set_option maxHeartbeats 8000000
set_option maxRecDepth 100000
set_option linter.unusedSimpArgs false
set_option linter.unusedVariables false
namespace Go.Pv.Soil

/-- A cell is as the proof asks. -/
def cellOK (g : Ground) (m : Grid) (a : List Int) (i : Nat) : Prop :=
  (lv a i = 30000 ↔ lv m.levels i = 30000) ∧ (lv m.levels i ≠ 30000 → lv a i ≠ lv m.levels i → lv a i ≤ lv m.levels i ∧ ∃ k, k < m.levels.length ∧ besideE m i k = true ∧ lv a k ≠ 30000 ∧ lv a i = lv a k + allowE g m i k)
theorem proved_iff {g : Ground} {m : Grid} {a : List Int} (hg : OkG g) (hm : OkGrid m) (hl : a.length = m.levels.length) (ha : ∀ i, i < a.length → lv a i ≠ 30000 → -20000 ≤ lv a i) : ((∀ i, i < m.levels.length → cellOK g m a i) ∧ Stable (netE g m) a) ↔ a = slumpE g m (-1) := by
  have hN := netE_ok hg hm m.levels.length
  have hgs := slumpE_gs hg hm (.inl rfl)
  constructor
  · rintro ⟨hc, hst⟩
    refine gs_of_held hN hgs ⟨hl, fun i hi => ⟨(hc i hi).1, fun hk => ?_⟩⟩ hst (fun i hi hk hne => ?_) ha
    · by_cases e : lv a i = lv m.levels i
      · rw [e]; simp
      · have := ((hc i hi).2 hk e).1
        omega
    · obtain ⟨_, k, h1, h2, h3, h4⟩ := (hc i hi).2 hk hne
      exact ⟨k, h1, h2, h3, h4⟩
  · rintro rfl
    have hh := held_of_gs hN hgs (fun i hi hk => (hm.rng i hi hk).2)
    refine ⟨fun i hi => ⟨(hgs.below.2 i hi).1, fun hk hne => ⟨?_, ?_⟩⟩, hgs.stable⟩
    · have := (hgs.below.2 i hi).2 hk
      omega
    · obtain ⟨k, h1, h2, h3, h4⟩ := hh i hi hk hne
      exact ⟨k, h1, h2, h3, h4⟩

/-- Is a cell held by one of some neighbours? -/
def heldB (g : Ground) (m : Grid) (a : List Int) (i : Nat) (l : List Int) : Bool := l.any fun x => !decide (lv a x.toNat = 30000) && decide (lv a i = lv a x.toNat + allowE g m i x.toNat)
theorem heldB_iff {g : Ground} {m : Grid} {a : List Int} {i : Nat} : heldB g m a i (nearL m i m.levels.length) = true ↔ ∃ k, k < m.levels.length ∧ besideE m i k = true ∧ lv a k ≠ 30000 ∧ lv a i = lv a k + allowE g m i k := by
  simp only [heldB, List.any_eq_true, Bool.and_eq_true, Bool.not_eq_true', decide_eq_false_iff_not, decide_eq_true_eq]
  constructor
  · rintro ⟨x, hx, h1, h2⟩
    obtain ⟨k, hk, rfl, hb⟩ := (nearL_mem m i x _).1 hx
    exact ⟨k, hk, hb, h1, h2⟩
  · rintro ⟨k, hk, hb, h1, h2⟩
    exact ⟨(k : Int), (nearL_mem m i _ _).2 ⟨k, hk, rfl, hb⟩, h1, h2⟩
theorem heldB_succ {g : Ground} {m : Grid} {a : List Int} {i : Nat} {l : List Int} {j : Nat} (hj : j < l.length) : heldB g m a i (l.take (j + 1)) = (heldB g m a i (l.take j) || (!decide (lv a l[j].toNat = 30000) && decide (lv a i = lv a l[j].toNat + allowE g m i l[j].toNat))) := by
  rw [List.take_succ_eq_append_getElem hj]; simp only [heldB, List.any_append, List.any_cons, List.any_nil, Bool.or_false]

theorem c57 (g : Ground) (hg : OkG g) (hsl : g.soils.length < 1000000000000) (m : Grid) (hm : OkGrid m) (a : Grid) (ha : OkGrid a) (hae : a = gridL m a.levels) (hla : a.levels.length = m.levels.length) :
    Contract Try.prog 57 [.agg (encGround g), .agg (encGrid m), .agg (encGrid a)] (.ret (.bool (decide (a.levels = slumpE g m (-1))))) := by
  have hs := hm.small
  have hpr := proved_iff hg hm hla (fun i hi hk => (ha.rng i hi hk).1)
  have hbad : ∀ i, i < m.levels.length → ¬ cellOK g m a.levels i → false = decide (a.levels = slumpE g m (-1)) := fun i hi h => (decide_eq_false fun e => h ((hpr.2 e).1 i hi)).symm
  have h59 := c59 g hg hsl a ha
  have hst : steepL g a a.levels.length = [] ↔ Stable (netE g m) a.levels := by
    have := steepL_nil g a
    rw [hae] at this ⊢
    exact this
  refine contract_of mix Try.func57 rfl rfl (by rw [Try.ntmps57]; exact Nat.le_of_ble_eq_true rfl) ?_; rw [Try.results57, Try.ntmps57]; simp only [argsE, Nat.reduceAdd]
  repeat' first
           | (with_reducible apply go_op)
           | (with_reducible apply go_next)
           | ((with_reducible (show evOp _ _ _ _ _ _)); first
             | ((with_reducible (show evOp _ (.move _) _ _ _ _)) ; first | ((with_reducible apply go_mv_int); rfl; rfl) | ((with_reducible apply go_mv_bool); rfl; rfl))
             | ((with_reducible apply go_as))
             | (((with_reducible apply go_bx_agg); rfl; rfl; (exact Nat.le_of_ble_eq_true rfl); rfl; rfl)))
           | ((with_reducible (show evOps _ _ _ _ _ _)); first
             | (with_reducible apply go_nil))
           | ((with_reducible (show ev _ _ _ _)); first
             | (with_reducible apply go_seq)
             | (with_reducible apply go_region)
             | (with_reducible apply go_block))
           | (with_reducible apply go_kseq)
  refine go_count m.levels.length (fun i => ⟨[(7, .int .i64 i), (3, .op 0 0 0), (4, .op 1 0 0), (5, .op 2 0 0)], [(0, ⟨2, true, [encGround g]⟩), (1, ⟨6, true, [encGrid m]⟩), (2, ⟨6, true, [encGrid a]⟩)], 32, 105⟩) (fun i => ∀ j, j < i → cellOK g m a.levels j)
    (entails_eq (nx := 32) (k := 1) (ns := []) (ks := [7, 3, 4, 5]) [(0, 0), (32, 1), (64, 2)] rfl (by simp) (by kernel_rfl)) (fun j hj => absurd hj (by omega)) ?_
  intro i hi hC
  by_cases hlt : i < m.levels.length
  · have hlia : i < a.levels.length := by omega
    have em := lv_get hlt
    have ea := lv_get hlia
    have rm := hm.rng i hlt
    have ra := ha.rng i hlia
    have c1 : Contract Try.prog 41 [.agg (encGrid m), .int .i64 i] (.ret (.bool (!decide (lv m.levels i = 30000)))) := c41L m (i : Int) (by omega) (by omega)
    have c2 : Contract Try.prog 41 [.agg (encGrid a), .int .i64 i] (.ret (.bool (!decide (lv a.levels i = 30000)))) := c41L a (i : Int) (by omega) (by omega)
    have c107i := c107 m hm i hlt
    have hnx : cellOK g m a.levels i → ∀ j, j < i + 1 → cellOK g m a.levels j := fun h j hj => by
      by_cases e : j = i
      · subst e; exact h
      · exact hC j (by omega)
    by_cases hk : lv m.levels i = 30000
    · by_cases hka : lv a.levels i = 30000
      · rw [decide_eq_true hk] at c1
        rw [decide_eq_true hka] at c2
        repeat' first
           | (with_reducible apply go_op)
           | (with_reducible apply go_next)
           | ((with_reducible (show evOp _ _ _ _ _ _)); first
             | ((with_reducible (show evOp _ (.move _) _ _ _ _)) ; first | ((with_reducible apply go_mv_int); rfl; rfl) | ((with_reducible apply go_mv_bool); rfl; rfl))
             | ((with_reducible apply go_as))
             | ((with_reducible (show evOp _ (.load _ _) _ _ _ _)) ; first | ((with_reducible apply go_ld_agg); rfl; rfl; rfl; rfl) | ((with_reducible apply go_load_own); rfl; rfl; rfl; rfl))
             | (((with_reducible apply go_fieldAddr_own); rfl; rfl; rfl))
             | ((with_reducible (show evOp _ (.binOp _ _ _ _ _) _ _ _ _)) ; first | ((with_reducible apply go_cmp); rfl; rfl; rfl; rfl) | ((with_reducible apply go_add); rfl; rfl; rfl; omega) | ((with_reducible apply go_bin); rfl; rfl))
             | ((with_reducible (show evOp _ (.call _) _ _ _ _)) ; first | ((with_reducible apply go_len); rfl; rfl) | ((with_reducible apply go_fn_bool); rfl; (exact c1); rfl) | ((with_reducible apply go_fn_bool); rfl; (exact c2); rfl))
             | (((with_reducible apply go_not); rfl; rfl))
             | (((with_reducible apply go_pick); rfl; rfl; rfl)))
           | ((with_reducible (show evOps _ _ _ _ _ _)); first
             | (with_reducible apply go_nil)
             | ((with_reducible apply go_pass); rfl; rfl; rfl)
             | ((with_reducible apply go_pre); rfl)
             | (with_reducible apply go_pre_nil)
             | ((with_reducible apply go_suf); rfl)
             | (with_reducible apply go_suf_nil))
           | ((with_reducible (show ev _ _ _ _)); first
             | (with_reducible apply go_seq)
             | (with_reducible apply go_region)
             | ((with_reducible apply go_cond_t); rfl; rfl)
             | ((with_reducible apply go_cond_f); rfl; rfl)
             | (((with_reducible apply go_cond); rfl) <;> (intro h; simp only [h]; try simp only [decide_eq_true_eq, decide_eq_false_iff_not, Bool.not_eq_true', Bool.not_eq_false', Bool.not_true, Bool.not_false] at h; try exact absurd trivial h))
             | ((with_reducible apply go_order); kernel_rfl; rfl)
             | (with_reducible apply go_skipc)
             | (with_reducible apply go_block)
             | (with_reducible apply go_exit))
           | (with_reducible apply go_kseq)
           | (with_reducible apply go_ksuf)
           | (with_reducible apply go_kblock_exit)
           | (with_reducible apply go_kseq_exit)
        all_goals first
          | exact absurd hlt (by omega)
          | exact ⟨‹i < m.levels.length›, hnx ⟨⟨fun _ => hk, fun _ => hka⟩, fun h => absurd hk h⟩, entails_eq (nx := 32) (k := 1) (ns := []) (ks := [7, 3, 4, 5]) [(0, 0), (1, 1), (2, 2)] rfl (by simp) (by kernel_rfl)⟩
          | trace_state
      · rw [decide_eq_true hk] at c1
        rw [decide_eq_false hka] at c2
        repeat' first
           | (with_reducible apply go_op)
           | (with_reducible apply go_next)
           | ((with_reducible (show evOp _ _ _ _ _ _)); first
             | ((with_reducible (show evOp _ (.move _) _ _ _ _)) ; first | ((with_reducible apply go_mv_int); rfl; rfl) | ((with_reducible apply go_mv_bool); rfl; rfl))
             | ((with_reducible apply go_as))
             | ((with_reducible (show evOp _ (.load _ _) _ _ _ _)) ; first | ((with_reducible apply go_ld_agg); rfl; rfl; rfl; rfl) | ((with_reducible apply go_load_own); rfl; rfl; rfl; rfl))
             | (((with_reducible apply go_fieldAddr_own); rfl; rfl; rfl))
             | ((with_reducible (show evOp _ (.binOp _ _ _ _ _) _ _ _ _)) ; first | ((with_reducible apply go_cmp); rfl; rfl; rfl; rfl) | ((with_reducible apply go_bin); rfl; rfl))
             | ((with_reducible (show evOp _ (.call _) _ _ _ _)) ; first | ((with_reducible apply go_len); rfl; rfl) | ((with_reducible apply go_fn_bool); rfl; (exact c1); rfl) | ((with_reducible apply go_fn_bool); rfl; (exact c2); rfl)))
           | ((with_reducible (show evOps _ _ _ _ _ _)); first
             | (with_reducible apply go_nil)
             | ((with_reducible apply go_pre); rfl)
             | (with_reducible apply go_pre_nil)
             | ((with_reducible apply go_suf); rfl)
             | (with_reducible apply go_suf_nil))
           | ((with_reducible (show ev _ _ _ _)); first
             | (with_reducible apply go_seq)
             | (with_reducible apply go_region)
             | ((with_reducible apply go_cond_t); rfl; rfl)
             | (((with_reducible apply go_cond); rfl) <;> (intro h; simp only [h]; try simp only [decide_eq_true_eq, decide_eq_false_iff_not, Bool.not_eq_true', Bool.not_eq_false', Bool.not_true, Bool.not_false] at h; try exact absurd trivial h))
             | ((with_reducible apply go_order); kernel_rfl; rfl)
             | (with_reducible apply go_ret)
             | (with_reducible apply go_skipc)
             | (with_reducible apply go_block)
             | (with_reducible apply go_exit))
           | (with_reducible apply go_kseq)
           | (with_reducible apply go_ksuf)
           | (with_reducible apply go_kseq_ret)
           | (with_reducible apply go_kblock_ret)
           | (with_reducible apply go_kblock_exit)
           | (with_reducible apply go_kseq_exit)
           | ((with_reducible apply end_bool); rfl)
        all_goals first
          | exact absurd hlt (by omega)
          | exact hbad i hlt fun h => hka (h.1.2 hk)
          | trace_state
    · by_cases hka : lv a.levels i = 30000
      · rw [decide_eq_false hk] at c1
        rw [decide_eq_true hka] at c2
        repeat' first
           | (with_reducible apply go_op)
           | (with_reducible apply go_next)
           | ((with_reducible (show evOp _ _ _ _ _ _)); first
             | ((with_reducible (show evOp _ (.move _) _ _ _ _)) ; first | ((with_reducible apply go_mv_int); rfl; rfl) | ((with_reducible apply go_mv_bool); rfl; rfl))
             | ((with_reducible apply go_as))
             | ((with_reducible (show evOp _ (.load _ _) _ _ _ _)) ; first | ((with_reducible apply go_ld_agg); rfl; rfl; rfl; rfl) | ((with_reducible apply go_load_own); rfl; rfl; rfl; rfl))
             | (((with_reducible apply go_fieldAddr_own); rfl; rfl; rfl))
             | ((with_reducible (show evOp _ (.binOp _ _ _ _ _) _ _ _ _)) ; first | ((with_reducible apply go_cmp); rfl; rfl; rfl; rfl) | ((with_reducible apply go_bin); rfl; rfl))
             | ((with_reducible (show evOp _ (.call _) _ _ _ _)) ; first | ((with_reducible apply go_len); rfl; rfl) | ((with_reducible apply go_fn_bool); rfl; (exact c1); rfl) | ((with_reducible apply go_fn_bool); rfl; (exact c2); rfl)))
           | ((with_reducible (show evOps _ _ _ _ _ _)); first
             | (with_reducible apply go_nil)
             | ((with_reducible apply go_pre); rfl)
             | (with_reducible apply go_pre_nil)
             | ((with_reducible apply go_suf); rfl)
             | (with_reducible apply go_suf_nil))
           | ((with_reducible (show ev _ _ _ _)); first
             | (with_reducible apply go_seq)
             | (with_reducible apply go_region)
             | ((with_reducible apply go_cond_t); rfl; rfl)
             | (((with_reducible apply go_cond); rfl) <;> (intro h; simp only [h]; try simp only [decide_eq_true_eq, decide_eq_false_iff_not, Bool.not_eq_true', Bool.not_eq_false', Bool.not_true, Bool.not_false] at h; try exact absurd trivial h))
             | ((with_reducible apply go_order); kernel_rfl; rfl)
             | (with_reducible apply go_ret)
             | (with_reducible apply go_skipc)
             | (with_reducible apply go_block)
             | (with_reducible apply go_exit))
           | (with_reducible apply go_kseq)
           | (with_reducible apply go_ksuf)
           | (with_reducible apply go_kseq_ret)
           | (with_reducible apply go_kblock_ret)
           | (with_reducible apply go_kblock_exit)
           | (with_reducible apply go_kseq_exit)
           | ((with_reducible apply end_bool); rfl)
        all_goals first
          | exact absurd hlt (by omega)
          | exact hbad i hlt fun h => hk (h.1.1 hka)
          | trace_state
      · rw [decide_eq_false hk] at c1
        rw [decide_eq_false hka] at c2
        have rm' := rm hk
        have ra' := ra hka
        rw [em] at rm'
        rw [ea] at ra'
        repeat' first
           | (with_reducible apply go_op)
           | (with_reducible apply go_next)
           | ((with_reducible (show evOp _ _ _ _ _ _)); first
             | ((with_reducible (show evOp _ (.move _) _ _ _ _)) ; first | ((with_reducible apply go_mv_int); rfl; rfl) | ((with_reducible apply go_mv_bool); rfl; rfl) | ((with_reducible apply go_mv_os); rfl; rfl))
             | ((with_reducible apply go_as))
             | ((with_reducible (show evOp _ (.load _ _) _ _ _ _)) ; first | ((with_reducible apply go_ld_agg); rfl; rfl; rfl; rfl) | ((with_reducible apply go_load); rfl; rfl; rfl) | ((with_reducible apply go_load_own); rfl; rfl; rfl; rfl))
             | (((with_reducible apply go_fieldAddr_own); rfl; rfl; rfl))
             | (((with_reducible apply go_index_nat); rfl; rfl; (with_reducible rfl); (intro; rfl); rfl; omega; (intro hlt)))
             | ((with_reducible (show evOp _ (.binOp _ _ _ _ _) _ _ _ _)) ; first | ((with_reducible apply go_cmp); rfl; rfl; rfl; rfl) | ((with_reducible apply go_add); rfl; rfl; rfl; omega) | ((with_reducible apply go_bin); rfl; rfl))
             | ((with_reducible (show evOp _ (.call _) _ _ _ _)) ; first | ((with_reducible apply go_len); rfl; rfl) | ((with_reducible apply go_fn_bool); rfl; (exact c1); rfl) | ((with_reducible apply go_fn_bool); rfl; (exact c2); rfl) | ((with_reducible apply go_fn_fr); rfl; (exact c107i); (exact scalInt); rfl))
             | (((with_reducible apply go_not); rfl; rfl))
             | (((with_reducible apply go_pick); rfl; rfl; rfl)))
           | ((with_reducible (show evOps _ _ _ _ _ _)); first
             | (with_reducible apply go_nil)
             | ((with_reducible apply go_run); rfl; rfl)
             | ((with_reducible apply go_pre); rfl)
             | (with_reducible apply go_pre_nil)
             | ((with_reducible apply go_suf); rfl)
             | (with_reducible apply go_suf_nil))
           | ((with_reducible (show ev _ _ _ _)); first
             | (with_reducible apply go_seq)
             | (with_reducible apply go_region)
             | ((with_reducible apply go_cond_f); rfl; rfl)
             | (((with_reducible apply go_cond); rfl) <;> (intro h; simp only [h]; try simp only [decide_eq_true_eq, decide_eq_false_iff_not, Bool.not_eq_true', Bool.not_eq_false', Bool.not_true, Bool.not_false] at h; try exact absurd trivial h))
             | ((with_reducible apply go_order); kernel_rfl; rfl)
             | (with_reducible apply go_skipc)
             | (with_reducible apply go_block)
             | (with_reducible apply go_exit))
           | (with_reducible apply go_kseq)
           | (with_reducible apply go_ksuf)
           | (with_reducible apply go_kblock_exit)
           | (with_reducible apply go_kseq_exit)
        all_goals try exact absurd hlt (by omega)
        · have he : lv a.levels i = lv m.levels i := by rw [em, ea]; assumption
          exact ⟨‹i < m.levels.length›, hnx ⟨⟨fun h => absurd h hka, fun h => absurd h hk⟩, fun _ h => absurd he h⟩, entails_eq (nx := 32) (k := 1) (ns := []) (ks := [7, 3, 4, 5]) [(0, 0), (1, 1), (2, 2)] rfl (by simp) (by kernel_rfl)⟩
        · have hne : lv a.levels i ≠ lv m.levels i := by rw [em, ea]; assumption
          have hNm : ∀ j (hj : j < (nearL m i m.levels.length).length), 0 ≤ (nearL m i m.levels.length)[j] ∧ (nearL m i m.levels.length)[j] < m.levels.length := fun j hj => by
            obtain ⟨k, h1, h2, _⟩ := (nearL_mem m i _ _).1 (List.getElem_mem hj)
            omega
          have hNl := nearL_len m i m.levels.length
          have hheld := heldB_iff (g := g) (m := m) (a := a.levels) (i := i)
          clear c107i
          generalize nearL m i m.levels.length = N at *
          refine go_count N.length (fun j => ⟨[(10, .int .i64 j), (9, .os 3 0 N.length), (8, .bool (heldB g m a.levels i (N.take j))), (7, .int .i64 i), (3, .op 0 0 0), (4, .op 1 0 0), (5, .op 2 0 0)], [(3, ⟨1, true, N.map encInt⟩), (0, ⟨2, true, [encGround g]⟩), (1, ⟨6, true, [encGrid m]⟩), (2, ⟨6, true, [encGrid a]⟩)], 32, 105⟩) (fun _ => True)
            (entails_eq (nx := 32) (k := 1) (ns := []) (ks := [10, 9, 8, 7, 3, 4, 5]) [(1056, 3), (0, 0), (1, 1), (2, 2)] rfl (by simp) (by kernel_rfl)) trivial ?_
          intro j hj _
          by_cases hlj : j < N.length
          · have hb := hNm j hlj
            have hx : N[j].toNat < a.levels.length := by omega
            have ex := lv_get hx
            have rx := ha.rng N[j].toNat hx
            have al := allowE_bd hg hm i N[j].toNat
            have hsc := heldB_succ (g := g) (m := m) (a := a.levels) (i := i) hlj
            have c3 := c41L a N[j] (by omega) (by omega)
            have c4 : Contract Try.prog 62 [.agg (encGround g), .agg (encGrid m), .int .i64 i, .int .i64 N[j]] (.ret (.int .i64 (allowE g m i N[j].toNat))) := c62L g hg hsl m hm (i : Int) N[j] (by omega) hb
            cases hbj : heldB g m a.levels i (N.take j)
            · rw [hbj, Bool.false_or] at hsc
              by_cases hkx : lv a.levels N[j].toNat = 30000
              · rw [decide_eq_true hkx] at hsc c3
                have hsc : heldB g m a.levels i (N.take (j + 1)) = false := hsc
                repeat' first
           | (with_reducible apply go_op)
           | (with_reducible apply go_next)
           | ((with_reducible (show evOp _ _ _ _ _ _)); first
             | ((with_reducible (show evOp _ (.move _) _ _ _ _)) ; first | ((with_reducible apply go_mv_int); rfl; rfl) | ((with_reducible apply go_mv_bool); rfl; rfl) | ((with_reducible apply go_mv_os); rfl; rfl))
             | ((with_reducible apply go_as))
             | ((with_reducible (show evOp _ (.load _ _) _ _ _ _)) ; first | ((with_reducible apply go_load_om); rfl; rfl; rfl; rfl; rotate_left; assumption) | ((with_reducible apply go_ld_agg); rfl; rfl; rfl; rfl) | ((with_reducible apply go_load); rfl; rfl; rfl) | ((with_reducible apply go_load_own); rfl; rfl; rfl; rfl))
             | (((with_reducible apply go_fieldAddr_own); rfl; rfl; rfl))
             | ((with_reducible (show evOp _ (.indexAddr _ _ _) _ _ _ _)) ; first | ((with_reducible apply go_index_nat); rfl; rfl; (with_reducible rfl); (intro; rfl); rfl; omega; (intro hlt)) | ((with_reducible apply go_index_om); rfl; rfl; rfl; (with_reducible rfl); rfl; rfl; omega; (intro hlt)))
             | ((with_reducible (show evOp _ (.binOp _ _ _ _ _) _ _ _ _)) ; first | ((with_reducible apply go_cmp); rfl; rfl; rfl; rfl) | ((with_reducible apply go_add); rfl; rfl; rfl; omega))
             | ((with_reducible (show evOp _ (.call _) _ _ _ _)) ; first | ((with_reducible apply go_len_own); rfl; rfl; rfl) | ((with_reducible apply go_fn_bool); rfl; (exact c3); rfl))
             | (((with_reducible apply go_not); rfl; rfl))
             | (((with_reducible apply go_pick); rfl; rfl; rfl)))
           | ((with_reducible (show evOps _ _ _ _ _ _)); first
             | (with_reducible apply go_nil)
             | ((with_reducible apply go_run); rfl; rfl)
             | ((with_reducible apply go_pass); rfl; rfl; rfl)
             | (((with_reducible apply go_guard); rfl) <;> (intro h; simp only [h, Bool.not_true, Bool.not_false]; (try with_reducible (refine ⟨rfl, ?_⟩)); try simp only [decide_eq_true_eq, decide_eq_false_iff_not, Bool.not_eq_true', Bool.not_eq_false', Bool.not_true, Bool.not_false] at h; try exact absurd trivial h))
             | ((with_reducible apply go_pre); rfl)
             | (with_reducible apply go_pre_nil)
             | ((with_reducible apply go_suf); rfl)
             | (with_reducible apply go_suf_nil)
             | (with_reducible apply go_take)
             | (with_reducible apply go_take0)
             | (with_reducible apply go_drop)
             | (with_reducible apply go_drop0))
           | ((with_reducible (show ev _ _ _ _)); first
             | (with_reducible apply go_seq)
             | (with_reducible apply go_region)
             | ((with_reducible apply go_cond_t); rfl; rfl)
             | (((with_reducible apply go_cond); rfl) <;> (intro h; simp only [h]; try simp only [decide_eq_true_eq, decide_eq_false_iff_not, Bool.not_eq_true', Bool.not_eq_false', Bool.not_true, Bool.not_false] at h; try exact absurd trivial h))
             | ((with_reducible apply (go_drawM 34)); decide +kernel; rfl)
             | ((with_reducible apply go_order); kernel_rfl; rfl)
             | (with_reducible apply go_ret)
             | (with_reducible apply go_skipc)
             | (with_reducible apply go_block)
             | (with_reducible apply go_exit))
           | (with_reducible apply go_kseq)
           | (with_reducible apply go_ksuf)
           | (with_reducible apply go_kseq_ret)
           | (with_reducible apply go_kblock)
           | (with_reducible apply go_kblock_ret)
           | (with_reducible apply go_kblock_exit)
           | (with_reducible apply go_kdrop)
           | (with_reducible apply go_kseq_exit)
           | ((with_reducible apply end_bool); rfl)
                all_goals first
                  | exact absurd hlj (by omega)
                  | (refine ⟨hlj, trivial, ?_⟩; rw [hsc]; exact entails_eq (nx := 32) (k := 1) (ns := []) (ks := [10, 9, 8, 7, 3, 4, 5]) [(3, 3), (0, 0), (1, 1), (2, 2)] rfl (by simp) (by kernel_rfl))
                  | trace_state
              · rw [decide_eq_false hkx] at hsc c3
                have rx' := rx hkx
                rw [ex] at rx'
                rw [ex, ea] at hsc
                have hsc : heldB g m a.levels i (N.take (j + 1)) = decide (a.levels[i] = a.levels[N[j].toNat] + allowE g m i N[j].toNat) := hsc
                repeat' first
           | (with_reducible apply go_op)
           | (with_reducible apply go_next)
           | ((with_reducible (show evOp _ _ _ _ _ _)); first
             | ((with_reducible (show evOp _ (.move _) _ _ _ _)) ; first | ((with_reducible apply go_mv_int); rfl; rfl) | ((with_reducible apply go_mv_bool); rfl; rfl) | ((with_reducible apply go_mv_os); rfl; rfl))
             | ((with_reducible apply go_as))
             | ((with_reducible (show evOp _ (.load _ _) _ _ _ _)) ; first | ((with_reducible apply go_load_om); rfl; rfl; rfl; rfl; rotate_left; assumption) | ((with_reducible apply go_ld_agg); rfl; rfl; rfl; rfl) | ((with_reducible apply go_load); rfl; rfl; rfl) | ((with_reducible apply go_load_own); rfl; rfl; rfl; rfl))
             | (((with_reducible apply go_fieldAddr_own); rfl; rfl; rfl))
             | ((with_reducible (show evOp _ (.indexAddr _ _ _) _ _ _ _)) ; first | ((with_reducible apply go_index_nat); rfl; rfl; (with_reducible rfl); (intro; rfl); rfl; omega; (intro hlt)) | ((with_reducible apply go_index_om); rfl; rfl; rfl; (with_reducible rfl); rfl; rfl; omega; (intro hlt)) | ((with_reducible apply go_index); rfl; rfl; (intro; rfl); rfl; omega; intro hlt))
             | ((with_reducible (show evOp _ (.binOp _ _ _ _ _) _ _ _ _)) ; first | ((with_reducible apply go_cmp); rfl; rfl; rfl; rfl) | ((with_reducible apply go_add); rfl; rfl; rfl; omega))
             | ((with_reducible (show evOp _ (.call _) _ _ _ _)) ; first | ((with_reducible apply go_len_own); rfl; rfl; rfl) | ((with_reducible apply go_fn_bool); rfl; (exact c3); rfl) | ((with_reducible apply go_fn_int); rfl; (exact c4); rfl))
             | (((with_reducible apply go_not); rfl; rfl))
             | (((with_reducible apply go_pick); rfl; rfl; rfl)))
           | ((with_reducible (show evOps _ _ _ _ _ _)); first
             | (with_reducible apply go_nil)
             | ((with_reducible apply go_run); rfl; rfl)
             | ((with_reducible apply go_pass); rfl; rfl; rfl)
             | (((with_reducible apply go_guard); rfl) <;> (intro h; simp only [h, Bool.not_true, Bool.not_false]; (try with_reducible (refine ⟨rfl, ?_⟩)); try simp only [decide_eq_true_eq, decide_eq_false_iff_not, Bool.not_eq_true', Bool.not_eq_false', Bool.not_true, Bool.not_false] at h; try exact absurd trivial h))
             | ((with_reducible apply go_pre); rfl)
             | (with_reducible apply go_pre_nil)
             | ((with_reducible apply go_suf); rfl)
             | (with_reducible apply go_suf_nil)
             | (with_reducible apply go_take)
             | (with_reducible apply go_take0)
             | (with_reducible apply go_drop)
             | (with_reducible apply go_drop0))
           | ((with_reducible (show ev _ _ _ _)); first
             | (with_reducible apply go_seq)
             | (with_reducible apply go_region)
             | ((with_reducible apply go_cond_t); rfl; rfl)
             | (((with_reducible apply go_cond); rfl) <;> (intro h; simp only [h]; try simp only [decide_eq_true_eq, decide_eq_false_iff_not, Bool.not_eq_true', Bool.not_eq_false', Bool.not_true, Bool.not_false] at h; try exact absurd trivial h))
             | ((with_reducible apply (go_drawM 34)); decide +kernel; rfl)
             | ((with_reducible apply go_order); kernel_rfl; rfl)
             | (with_reducible apply go_ret)
             | (with_reducible apply go_skipc)
             | (with_reducible apply go_block)
             | (with_reducible apply go_exit))
           | (with_reducible apply go_kseq)
           | (with_reducible apply go_ksuf)
           | (with_reducible apply go_kseq_ret)
           | (with_reducible apply go_kblock)
           | (with_reducible apply go_kblock_ret)
           | (with_reducible apply go_kblock_exit)
           | (with_reducible apply go_kdrop)
           | (with_reducible apply go_kseq_exit)
           | ((with_reducible apply end_bool); rfl)
                all_goals first
                  | exact absurd hlj (by omega)
                  | (refine ⟨‹j < N.length›, trivial, ?_⟩; rw [hsc]; exact entails_eq (nx := 32) (k := 1) (ns := []) (ks := [10, 9, 8, 7, 3, 4, 5]) [(3, 3), (0, 0), (1, 1), (2, 2)] rfl (by simp) (by kernel_rfl))
                  | trace_state
            · rw [hbj, Bool.true_or] at hsc
              repeat' first
           | (with_reducible apply go_op)
           | (with_reducible apply go_next)
           | ((with_reducible (show evOp _ _ _ _ _ _)); first
             | ((with_reducible (show evOp _ (.move _) _ _ _ _)) ; first | ((with_reducible apply go_mv_int); rfl; rfl) | ((with_reducible apply go_mv_bool); rfl; rfl) | ((with_reducible apply go_mv_os); rfl; rfl))
             | ((with_reducible apply go_as))
             | ((with_reducible (show evOp _ (.load _ _) _ _ _ _)) ; first | ((with_reducible apply go_load); rfl; rfl; rfl) | ((with_reducible apply go_load_own); rfl; rfl; rfl; rfl))
             | (((with_reducible apply go_fieldAddr_own); rfl; rfl; rfl))
             | (((with_reducible apply go_index_nat); rfl; rfl; (with_reducible rfl); (intro; rfl); rfl; omega; (intro hlt)))
             | ((with_reducible (show evOp _ (.binOp _ _ _ _ _) _ _ _ _)) ; first | ((with_reducible apply go_cmp); rfl; rfl; rfl; rfl) | ((with_reducible apply go_add); rfl; rfl; rfl; omega))
             | (((with_reducible apply go_len_own); rfl; rfl; rfl))
             | (((with_reducible apply go_not); rfl; rfl))
             | (((with_reducible apply go_pick); rfl; rfl; rfl)))
           | ((with_reducible (show evOps _ _ _ _ _ _)); first
             | (with_reducible apply go_nil)
             | ((with_reducible apply go_run); rfl; rfl)
             | ((with_reducible apply go_pass); rfl; rfl; rfl)
             | ((with_reducible apply go_skip); rfl; rfl)
             | (((with_reducible apply go_guard); rfl) <;> (intro h; simp only [h, Bool.not_true, Bool.not_false]; (try with_reducible (refine ⟨rfl, ?_⟩)); try simp only [decide_eq_true_eq, decide_eq_false_iff_not, Bool.not_eq_true', Bool.not_eq_false', Bool.not_true, Bool.not_false] at h; try exact absurd trivial h))
             | ((with_reducible apply go_pre); rfl)
             | (with_reducible apply go_pre_nil)
             | ((with_reducible apply go_suf); rfl)
             | (with_reducible apply go_suf_nil)
             | (with_reducible apply go_take)
             | (with_reducible apply go_take0)
             | (with_reducible apply go_drop)
             | (with_reducible apply go_drop0))
           | ((with_reducible (show ev _ _ _ _)); first
             | (with_reducible apply go_seq)
             | (with_reducible apply go_region)
             | ((with_reducible apply go_cond_t); rfl; rfl)
             | ((with_reducible apply go_cond_f); rfl; rfl)
             | (((with_reducible apply go_cond); rfl) <;> (intro h; simp only [h]; try simp only [decide_eq_true_eq, decide_eq_false_iff_not, Bool.not_eq_true', Bool.not_eq_false', Bool.not_true, Bool.not_false] at h; try exact absurd trivial h))
             | ((with_reducible apply (go_drawM 34)); decide +kernel; rfl)
             | ((with_reducible apply go_order); kernel_rfl; rfl)
             | (with_reducible apply go_ret)
             | (with_reducible apply go_skipc)
             | (with_reducible apply go_block)
             | (with_reducible apply go_exit))
           | (with_reducible apply go_kseq)
           | (with_reducible apply go_ksuf)
           | (with_reducible apply go_kseq_ret)
           | (with_reducible apply go_kblock)
           | (with_reducible apply go_kblock_ret)
           | (with_reducible apply go_kblock_exit)
           | (with_reducible apply go_kdrop)
           | (with_reducible apply go_kseq_exit)
           | ((with_reducible apply end_bool); rfl)
              all_goals first
                | exact absurd hlj (by omega)
                | (refine ⟨‹j < N.length›, trivial, ?_⟩; rw [hsc]; exact entails_eq (nx := 32) (k := 1) (ns := []) (ks := [10, 9, 8, 7, 3, 4, 5]) [(3, 3), (0, 0), (1, 1), (2, 2)] rfl (by simp) (by kernel_rfl))
                | trace_state
          · have e : j = N.length := by omega
            subst e
            rw [List.take_length]
            cases hbj : heldB g m a.levels i N
            · repeat' first
           | (with_reducible apply go_op)
           | (with_reducible apply go_next)
           | ((with_reducible (show evOp _ _ _ _ _ _)); first
             | ((with_reducible (show evOp _ (.move _) _ _ _ _)) ; first | ((with_reducible apply go_mv_int); rfl; rfl) | ((with_reducible apply go_mv_bool); rfl; rfl) | ((with_reducible apply go_mv_os); rfl; rfl))
             | ((with_reducible apply go_as))
             | ((with_reducible (show evOp _ (.load _ _) _ _ _ _)) ; first | ((with_reducible apply go_load_om); rfl; rfl; rfl; rfl; rotate_left; assumption) | ((with_reducible apply go_ld_agg); rfl; rfl; rfl; rfl) | ((with_reducible apply go_load); rfl; rfl; rfl) | ((with_reducible apply go_load_own); rfl; rfl; rfl; rfl))
             | (((with_reducible apply go_fieldAddr_own); rfl; rfl; rfl))
             | ((with_reducible (show evOp _ (.indexAddr _ _ _) _ _ _ _)) ; first | ((with_reducible apply go_index_nat); rfl; rfl; (with_reducible rfl); (intro; rfl); rfl; omega; (intro hlt)) | ((with_reducible apply go_index_om); rfl; rfl; rfl; (with_reducible rfl); rfl; rfl; omega; (intro hlt)))
             | (((with_reducible apply go_cmp); rfl; rfl; rfl; rfl))
             | (((with_reducible apply go_len_own); rfl; rfl; rfl))
             | (((with_reducible apply go_not); rfl; rfl))
             | (((with_reducible apply go_pick); rfl; rfl; rfl)))
           | ((with_reducible (show evOps _ _ _ _ _ _)); first
             | (with_reducible apply go_nil)
             | ((with_reducible apply go_run); rfl; rfl)
             | ((with_reducible apply go_pass); rfl; rfl; rfl)
             | (((with_reducible apply go_guard); rfl) <;> (intro h; simp only [h, Bool.not_true, Bool.not_false]; (try with_reducible (refine ⟨rfl, ?_⟩)); try simp only [decide_eq_true_eq, decide_eq_false_iff_not, Bool.not_eq_true', Bool.not_eq_false', Bool.not_true, Bool.not_false] at h; try exact absurd trivial h))
             | ((with_reducible apply go_pre); rfl)
             | (with_reducible apply go_pre_nil)
             | ((with_reducible apply go_suf); rfl)
             | (with_reducible apply go_suf_nil)
             | (with_reducible apply go_take))
           | ((with_reducible (show ev _ _ _ _)); first
             | (with_reducible apply go_seq)
             | (with_reducible apply go_region)
             | ((with_reducible apply go_cond_t); rfl; rfl)
             | (((with_reducible apply go_cond); rfl) <;> (intro h; simp only [h]; try simp only [decide_eq_true_eq, decide_eq_false_iff_not, Bool.not_eq_true', Bool.not_eq_false', Bool.not_true, Bool.not_false] at h; try exact absurd trivial h))
             | ((with_reducible apply (go_drawM 34)); decide +kernel; rfl)
             | ((with_reducible apply go_order); kernel_rfl; rfl)
             | (with_reducible apply go_ret)
             | (with_reducible apply go_skipc)
             | (with_reducible apply go_block)
             | (with_reducible apply go_exit))
           | (with_reducible apply go_kseq)
           | (with_reducible apply go_ksuf)
           | (with_reducible apply go_kseq_ret)
           | (with_reducible apply go_kblock_ret)
           | (with_reducible apply go_kblock_exit)
           | (with_reducible apply go_kseq_exit)
           | ((with_reducible apply end_bool); rfl)
              all_goals first
                | exact absurd hlj (by omega)
                | exact hbad i hlt fun h => by
                    have := hheld.2 (h.2 hk hne).2
                    rw [hbj] at this
                    cases this
                | trace_state
            · repeat' first
           | (with_reducible apply go_op)
           | (with_reducible apply go_next)
           | ((with_reducible (show evOp _ _ _ _ _ _)); first
             | ((with_reducible (show evOp _ (.move _) _ _ _ _)) ; first | ((with_reducible apply go_mv_int); rfl; rfl) | ((with_reducible apply go_mv_bool); rfl; rfl) | ((with_reducible apply go_mv_os); rfl; rfl))
             | ((with_reducible apply go_as))
             | ((with_reducible (show evOp _ (.load _ _) _ _ _ _)) ; first | ((with_reducible apply go_load); rfl; rfl; rfl) | ((with_reducible apply go_load_own); rfl; rfl; rfl; rfl))
             | (((with_reducible apply go_fieldAddr_own); rfl; rfl; rfl))
             | (((with_reducible apply go_index_nat); rfl; rfl; (with_reducible rfl); (intro; rfl); rfl; omega; (intro hlt)))
             | ((with_reducible (show evOp _ (.binOp _ _ _ _ _) _ _ _ _)) ; first | ((with_reducible apply go_cmp); rfl; rfl; rfl; rfl) | ((with_reducible apply go_add); rfl; rfl; rfl; omega))
             | (((with_reducible apply go_len_own); rfl; rfl; rfl))
             | (((with_reducible apply go_not); rfl; rfl))
             | (((with_reducible apply go_pick); rfl; rfl; rfl)))
           | ((with_reducible (show evOps _ _ _ _ _ _)); first
             | (with_reducible apply go_nil)
             | ((with_reducible apply go_run); rfl; rfl)
             | ((with_reducible apply go_pass); rfl; rfl; rfl)
             | ((with_reducible apply go_skip); rfl; rfl)
             | (((with_reducible apply go_guard); rfl) <;> (intro h; simp only [h, Bool.not_true, Bool.not_false]; (try with_reducible (refine ⟨rfl, ?_⟩)); try simp only [decide_eq_true_eq, decide_eq_false_iff_not, Bool.not_eq_true', Bool.not_eq_false', Bool.not_true, Bool.not_false] at h; try exact absurd trivial h))
             | ((with_reducible apply go_pre); rfl)
             | (with_reducible apply go_pre_nil)
             | ((with_reducible apply go_suf); rfl)
             | (with_reducible apply go_suf_nil)
             | (with_reducible apply go_take)
             | (with_reducible apply go_take0)
             | (with_reducible apply go_drop)
             | (with_reducible apply go_drop0))
           | ((with_reducible (show ev _ _ _ _)); first
             | (with_reducible apply go_seq)
             | (with_reducible apply go_region)
             | ((with_reducible apply go_cond_t); rfl; rfl)
             | ((with_reducible apply go_cond_f); rfl; rfl)
             | (((with_reducible apply go_cond); rfl) <;> (intro h; simp only [h]; try simp only [decide_eq_true_eq, decide_eq_false_iff_not, Bool.not_eq_true', Bool.not_eq_false', Bool.not_true, Bool.not_false] at h; try exact absurd trivial h))
             | ((with_reducible apply (go_drawM 34)); decide +kernel; rfl)
             | ((with_reducible apply go_order); kernel_rfl; rfl)
             | (with_reducible apply go_ret)
             | (with_reducible apply go_skipc)
             | (with_reducible apply go_block)
             | (with_reducible apply go_exit))
           | (with_reducible apply go_kseq)
           | (with_reducible apply go_ksuf)
           | (with_reducible apply go_kseq_ret)
           | (with_reducible apply go_kblock)
           | (with_reducible apply go_kblock_ret)
           | (with_reducible apply go_kblock_exit)
           | (with_reducible apply go_kdrop)
           | (with_reducible apply go_kseq_exit)
           | ((with_reducible apply end_bool); rfl)
              all_goals first
                | exact absurd hlj (by omega)
                | exact hbad i hlt fun h => by
                    have := (h.2 hk hne).1
                    omega
                | exact ⟨‹i < m.levels.length›, hnx ⟨⟨fun h => absurd h hka, fun h => absurd h hk⟩, fun _ _ => ⟨by omega, hheld.1 hbj⟩⟩, entails_eq (nx := 32) (k := 1) (ns := []) (ks := [7, 3, 4, 5]) [(0, 0), (1, 1), (2, 2)] rfl (by simp) (by kernel_rfl)⟩
                | trace_state
  · have e : i = m.levels.length := by omega
    repeat' first
           | (with_reducible apply go_op)
           | (with_reducible apply go_next)
           | ((with_reducible (show evOp _ _ _ _ _ _)); first
             | ((with_reducible (show evOp _ (.move _) _ _ _ _)) ; first | ((with_reducible apply go_mv_int); rfl; rfl) | ((with_reducible apply go_mv_bool); rfl; rfl))
             | ((with_reducible apply go_as))
             | ((with_reducible (show evOp _ (.load _ _) _ _ _ _)) ; first | ((with_reducible apply go_ld_agg); rfl; rfl; rfl; rfl) | ((with_reducible apply go_load_own); rfl; rfl; rfl; rfl))
             | (((with_reducible apply go_fieldAddr_own); rfl; rfl; rfl))
             | (((with_reducible apply go_cmp); rfl; rfl; rfl; rfl))
             | ((with_reducible (show evOp _ (.call _) _ _ _ _)) ; first | ((with_reducible apply go_len); rfl; rfl) | ((with_reducible apply go_len_own); rfl; rfl; rfl) | ((with_reducible apply go_fn_fr); rfl; (exact h59); (exact scalSteep); rfl)))
           | ((with_reducible (show evOps _ _ _ _ _ _)); first
             | (with_reducible apply go_nil)
             | ((with_reducible apply go_pre); rfl))
           | ((with_reducible (show ev _ _ _ _)); first
             | (with_reducible apply go_seq)
             | (with_reducible apply go_region)
             | (((with_reducible apply go_cond); rfl) <;> (intro h; simp only [h]; try simp only [decide_eq_true_eq, decide_eq_false_iff_not, Bool.not_eq_true', Bool.not_eq_false', Bool.not_true, Bool.not_false] at h; try exact absurd trivial h))
             | ((with_reducible apply go_order); kernel_rfl; rfl)
             | (with_reducible apply go_ret)
             | (with_reducible apply go_skipc)
             | (with_reducible apply go_block)
             | (with_reducible apply go_exit))
           | (with_reducible apply go_kseq)
           | (with_reducible apply go_kblock_exit)
           | (with_reducible apply go_kseq_exit)
           | ((with_reducible apply end_bool); rfl)
    all_goals first
      | exact absurd hlt (by omega)
      | skip
    refine decide_eq_decide.2 ?_
    rw [← hpr, ← hst]
    constructor
    · intro h
      exact ⟨fun j hj => hC j (by omega), List.length_eq_zero_iff.1 (by omega)⟩
    · rintro ⟨_, h⟩
      rw [h]; rfl
end Go.Pv.Soil

open Go Go.Proofs Go.Pv
set_option maxHeartbeats 8000000
set_option maxRecDepth 100000
set_option linter.unusedSimpArgs false
set_option linter.unusedVariables false
namespace Go.Pv.Soil

theorem gridded2 {g : Ground} {m a : Grid} (h : griddedE g [m, a] = 0) : groundE g = 0 ∧ gridE m = 0 ∧ gridE a = 0 ∧ alikeE m a = true := by
  unfold griddedE at h
  split at h
  · omega
  · rename_i h1
    split at h
    · omega
    · rename_i h2
      simp only [List.map_cons, List.map_nil, firstOf] at h2
      have h : (if alikeE m a = true then (0 : Int) else 10) = 0 := h
      split at h
      · rename_i h4
        refine ⟨by omega, ?_, ?_, h4⟩
        · split at h2 <;> omega
        · split at h2
          · omega
          · split at h2 <;> omega
      · omega
theorem alike_gridL {m o : Grid} (h : alikeE m o = true) : o = gridL m o.levels := by
  have p3 : decide (m.x = o.x ∧ m.y = o.y ∧ m.side = o.side ∧ m.cols = o.cols ∧ m.rows = o.rows) = true := h
  have p3 := of_decide_eq_true p3
  obtain ⟨x, y, sd, c, r, l⟩ := o
  simp only at p3
  obtain ⟨q1, q2, q3, q4, q5⟩ := p3
  simp only [gridL, q1, q2, q3, q4, q5]
theorem alike_len {m o : Grid} (hm : OkGrid m) (ho : OkGrid o) (h : alikeE m o = true) : o.levels.length = m.levels.length := by
  have a := ho.len
  have b := hm.len
  have c : o.cols * o.rows = m.cols * m.rows := by rw [alike_gridL h]; rfl
  omega
theorem near_gridL (m : Grid) (l : List Int) (i : Nat) : ∀ n, nearL m i n = nearL (gridL m l) i n
  | 0 => rfl
  | n + 1 => by
    have ih := near_gridL m l i n
    have e : besideE (gridL m l) i n = besideE m i n := rfl
    simp only [nearL, ih, e]

theorem good56 (g : Ground) (hsl : g.soils.length < 1000000000000) (hbl : g.borings.length < 1000000000000) (m a : Grid) (hl : m.levels.length < 1000000000000) (hla' : a.levels.length < 1000000000000) (hge : griddedE g [m, a] = 0) :
    Contract Try.prog 56 [.agg (encGround g), .agg (encGrid m), .agg (encGrid a)] (.ret (.int .i64 (if a.levels = slumpE g m (-1) then 0 else 21))) := by
  have h93 := c93 g hsl hbl [m, a] (by simp) (by intro x hx; simp at hx; rcases hx with rfl | rfl <;> assumption)
  rw [hge] at h93
  obtain ⟨h1, h2, h3, h4⟩ := gridded2 hge
  have hg := okG h1
  have hm := okGrid h2
  have ha := okGrid h3
  have hae := alike_gridL h4
  have hla := alike_len hm ha h4
  have hs := hm.small
  have hrl := runsE_len g m
  have hpr := proved_iff hg hm hla (fun i hi hk => (ha.rng i hi hk).1)
  have hbad : ∀ i, i < m.levels.length → ¬ cellOK g m a.levels i → 21 = (if a.levels = slumpE g m (-1) then (0 : Int) else 21) := fun i hi h => (if_neg fun e => h ((hpr.2 e).1 i hi)).symm
  have hst : steepL g a a.levels.length = [] ↔ Stable (netE g m) a.levels := by
    have := steepL_nil g a
    rw [hae] at this ⊢
    exact this
  have h95 := c95 g hg m hm h2 a ha hla (fun i n => by rw [hae]; exact near_gridL m _ i n) (fun i k => by rw [hae]; rfl)
  refine contract_of mix Try.func56 rfl rfl (by rw [Try.ntmps56]; exact Nat.le_of_ble_eq_true rfl) ?_; rw [Try.results56, Try.ntmps56]; simp only [argsE, Nat.reduceAdd]
  repeat' first
           | (with_reducible apply go_op)
           | (with_reducible apply go_next)
           | ((with_reducible (show evOp _ _ _ _ _ _)); first
             | (((with_reducible apply go_mv_int); rfl; rfl))
             | ((with_reducible apply go_as))
             | ((with_reducible (show evOp _ (.load _ _) _ _ _ _)) ; first | ((with_reducible apply go_ld_agg); rfl; rfl; rfl; rfl) | ((with_reducible apply go_load_own); rfl; rfl; rfl; rfl))
             | (((with_reducible apply go_fieldAddr_own); rfl; rfl; rfl))
             | (((with_reducible apply go_cmp); rfl; rfl; rfl; rfl))
             | ((with_reducible (show evOp _ (.call _) _ _ _ _)) ; first | ((with_reducible apply go_len); rfl; rfl) | ((with_reducible apply go_len_own); rfl; rfl; rfl) | ((with_reducible apply go_fn_int); rfl; (exact h93); rfl) | ((with_reducible apply (go_fn_agf (cs := encGrid m))); rfl; (exact c94 g hg hsl m hm h2); (exact scalInt); rfl; rfl; rfl; rfl; rfl) | ((with_reducible apply go_fn_fr); (exact purL_agf (cs := encGrid m) rfl (by simp) rfl rfl rfl); (exact h95); (exact scalSteep); rfl))
             | (((with_reducible apply go_st_agg); rfl; rfl; rfl; rfl; rfl; rfl; rfl))
             | (((with_reducible apply go_bd1_agg); rfl; rfl; rfl; rfl))
             | (((with_reducible apply go_bx_agg); rfl; rfl; (exact Nat.le_of_ble_eq_true rfl); rfl; rfl))
             | (((with_reducible apply go_alloc); rfl; rfl; rfl))
             | (((with_reducible apply go_bs2_agg); rfl; rfl; rfl; rfl; rfl; rfl; rfl; rfl)))
           | ((with_reducible (show evOps _ _ _ _ _ _)); first
             | (with_reducible apply go_nil))
           | ((with_reducible (show ev _ _ _ _)); first
             | (with_reducible apply go_seq)
             | (with_reducible apply go_region)
             | ((with_reducible apply go_cond_f); rfl; rfl)
             | (((with_reducible apply go_cond); rfl) <;> (intro h; simp only [h]; try simp only [decide_eq_true_eq, decide_eq_false_iff_not, Bool.not_eq_true', Bool.not_eq_false', Bool.not_true, Bool.not_false] at h; try exact absurd trivial h))
             | (with_reducible apply go_ret)
             | (with_reducible apply go_skipc)
             | (with_reducible apply go_block)
             | (with_reducible apply go_scope)
             | (with_reducible apply go_label))
           | (with_reducible apply go_kseq)
           | (with_reducible apply go_kseq_ret)
           | ((with_reducible apply end_int); rfl)
  all_goals try exact absurd rfl ‹_›
  · have : ¬ Stable (netE g m) a.levels := fun h => by
      have h0 : 0 < (steepL g a a.levels.length).length := by omega
      rw [hst.2 h] at h0
      cases h0
    exact (if_neg fun e => this (hpr.2 e).2).symm
  have hstb : Stable (netE g m) a.levels := hst.1 (List.length_eq_zero_iff.1 (by omega))
  clear h95 h93
  refine go_count m.levels.length (fun i => ⟨[(32, .int .i64 i), (31, .int .i64 m.levels.length), (8, .op 3 0 0), (3, .op 0 0 0), (4, .op 1 0 0), (5, .op 2 0 0)], [(0, ⟨2, true, [encGround g]⟩), (1, ⟨6, true, [encGrid m]⟩), (2, ⟨6, true, [encGrid a]⟩), (3, ⟨7, false, [encGrid m ++ [.os 4 0 (runsE g m).length]]⟩), (4, ⟨1, true, (runsE g m).map encInt⟩)], 32, 108⟩) (fun i => ∀ j, j < i → cellOK g m a.levels j)
    (entails_eq (nx := 32) (k := 1) (ns := []) (ks := [32, 31, 8, 3, 4, 5]) [(0, 0), (32, 1), (64, 2), (512, 3), (486, 4)] rfl (by simp) (by kernel_rfl)) (fun j hj => absurd hj (by omega)) ?_
  intro i hi hC
  by_cases hlt : i < m.levels.length
  · have hlia : i < a.levels.length := by omega
    have em := lv_get hlt
    have ea := lv_get hlia
    have rm := hm.rng i hlt
    have ra := ha.rng i hlia
    have c1 : Contract Try.prog 104 [.agg (encGrid m), .int .i64 i] (.ret (.bool (!decide (lv m.levels i = 30000)))) := c104L m (i : Int) (by omega) (by omega)
    have c2 : Contract Try.prog 104 [.agg (encGrid a), .int .i64 i] (.ret (.bool (!decide (lv a.levels i = 30000)))) := c104L a (i : Int) (by omega) (by omega)
    have c105i := c105 g m hm h2 i hlt
    have hnx : cellOK g m a.levels i → ∀ j, j < i + 1 → cellOK g m a.levels j := fun h j hj => by
      by_cases e : j = i
      · subst e; exact h
      · exact hC j (by omega)
    by_cases hk : lv m.levels i = 30000
    · by_cases hka : lv a.levels i = 30000
      · rw [decide_eq_true hk] at c1
        rw [decide_eq_true hka] at c2
        repeat' first
           | (with_reducible apply go_op)
           | (with_reducible apply go_next)
           | ((with_reducible (show evOp _ _ _ _ _ _)); first
             | ((with_reducible (show evOp _ (.move _) _ _ _ _)) ; first | ((with_reducible apply go_mv_int); rfl; rfl) | ((with_reducible apply go_mv_bool); rfl; rfl))
             | ((with_reducible apply go_as))
             | (((with_reducible apply go_ld_agg); rfl; rfl; rfl; rfl))
             | ((with_reducible (show evOp _ (.binOp _ _ _ _ _) _ _ _ _)) ; first | ((with_reducible apply go_cmp); rfl; rfl; rfl; rfl) | ((with_reducible apply go_add); rfl; rfl; rfl; omega) | ((with_reducible apply go_bin); rfl; rfl))
             | ((with_reducible (show evOp _ (.call _) _ _ _ _)) ; first | ((with_reducible apply go_fn_bool); rfl; (exact c1); rfl) | ((with_reducible apply go_fn_bool); rfl; (exact c2); rfl))
             | (((with_reducible apply go_not); rfl; rfl))
             | (((with_reducible apply go_pick); rfl; rfl; rfl)))
           | ((with_reducible (show evOps _ _ _ _ _ _)); first
             | (with_reducible apply go_nil)
             | ((with_reducible apply go_run); rfl; rfl)
             | ((with_reducible apply go_pass); rfl; rfl; rfl)
             | ((with_reducible apply go_pre); rfl)
             | (with_reducible apply go_pre_nil)
             | ((with_reducible apply go_suf); rfl)
             | (with_reducible apply go_suf_nil))
           | ((with_reducible (show ev _ _ _ _)); first
             | (with_reducible apply go_seq)
             | (with_reducible apply go_region)
             | ((with_reducible apply go_cond_t); rfl; rfl)
             | ((with_reducible apply go_cond_f); rfl; rfl)
             | (((with_reducible apply go_cond); rfl) <;> (intro h; simp only [h]; try simp only [decide_eq_true_eq, decide_eq_false_iff_not, Bool.not_eq_true', Bool.not_eq_false', Bool.not_true, Bool.not_false] at h; try exact absurd trivial h))
             | ((with_reducible apply go_order); kernel_rfl; rfl)
             | (with_reducible apply go_ret)
             | (with_reducible apply go_skipc)
             | (with_reducible apply go_block)
             | (with_reducible apply go_exit))
           | (with_reducible apply go_kseq)
           | (with_reducible apply go_ksuf)
           | (with_reducible apply go_kblock_exit)
           | (with_reducible apply go_kseq_exit)
           | ((with_reducible apply end_int); rfl)
        all_goals first
          | exact absurd hlt (by omega)
          | exact ⟨‹i < m.levels.length›, hnx ⟨⟨fun _ => hk, fun _ => hka⟩, fun h => absurd hk h⟩, entails_eq (nx := 32) (k := 1) (ns := []) (ks := [32, 31, 8, 3, 4, 5]) [(0, 0), (1, 1), (2, 2), (3, 3), (4, 4)] rfl (by simp) (by kernel_rfl)⟩
          | trace_state
      · rw [decide_eq_true hk] at c1
        rw [decide_eq_false hka] at c2
        repeat' first
           | (with_reducible apply go_op)
           | (with_reducible apply go_next)
           | ((with_reducible (show evOp _ _ _ _ _ _)); first
             | ((with_reducible (show evOp _ (.move _) _ _ _ _)) ; first | ((with_reducible apply go_mv_int); rfl; rfl) | ((with_reducible apply go_mv_bool); rfl; rfl))
             | ((with_reducible apply go_as))
             | (((with_reducible apply go_ld_agg); rfl; rfl; rfl; rfl))
             | ((with_reducible (show evOp _ (.binOp _ _ _ _ _) _ _ _ _)) ; first | ((with_reducible apply go_cmp); rfl; rfl; rfl; rfl) | ((with_reducible apply go_bin); rfl; rfl))
             | ((with_reducible (show evOp _ (.call _) _ _ _ _)) ; first | ((with_reducible apply go_fn_bool); rfl; (exact c1); rfl) | ((with_reducible apply go_fn_bool); rfl; (exact c2); rfl))
             | (((with_reducible apply go_pick); rfl; rfl; rfl)))
           | ((with_reducible (show evOps _ _ _ _ _ _)); first
             | (with_reducible apply go_nil)
             | ((with_reducible apply go_pass); rfl; rfl; rfl)
             | ((with_reducible apply go_skip); rfl; rfl)
             | ((with_reducible apply go_pre); rfl)
             | (with_reducible apply go_pre_nil)
             | ((with_reducible apply go_suf); rfl)
             | (with_reducible apply go_suf_nil))
           | ((with_reducible (show ev _ _ _ _)); first
             | (with_reducible apply go_seq)
             | (with_reducible apply go_region)
             | ((with_reducible apply go_cond_t); rfl; rfl)
             | (((with_reducible apply go_cond); rfl) <;> (intro h; simp only [h]; try simp only [decide_eq_true_eq, decide_eq_false_iff_not, Bool.not_eq_true', Bool.not_eq_false', Bool.not_true, Bool.not_false] at h; try exact absurd trivial h))
             | ((with_reducible apply go_order); kernel_rfl; rfl)
             | (with_reducible apply go_ret)
             | (with_reducible apply go_skipc)
             | (with_reducible apply go_block)
             | (with_reducible apply go_exit))
           | (with_reducible apply go_kseq)
           | (with_reducible apply go_ksuf)
           | (with_reducible apply go_kseq_ret)
           | (with_reducible apply go_kblock_ret)
           | (with_reducible apply go_kblock_exit)
           | (with_reducible apply go_kseq_exit)
           | ((with_reducible apply end_int); rfl)
        all_goals first
          | exact absurd hlt (by omega)
          | exact hbad i hlt fun h => hka (h.1.2 hk)
          | trace_state
    · by_cases hka : lv a.levels i = 30000
      · rw [decide_eq_false hk] at c1
        rw [decide_eq_true hka] at c2
        repeat' first
           | (with_reducible apply go_op)
           | (with_reducible apply go_next)
           | ((with_reducible (show evOp _ _ _ _ _ _)); first
             | ((with_reducible (show evOp _ (.move _) _ _ _ _)) ; first | ((with_reducible apply go_mv_int); rfl; rfl) | ((with_reducible apply go_mv_bool); rfl; rfl))
             | ((with_reducible apply go_as))
             | (((with_reducible apply go_ld_agg); rfl; rfl; rfl; rfl))
             | ((with_reducible (show evOp _ (.binOp _ _ _ _ _) _ _ _ _)) ; first | ((with_reducible apply go_cmp); rfl; rfl; rfl; rfl) | ((with_reducible apply go_bin); rfl; rfl))
             | ((with_reducible (show evOp _ (.call _) _ _ _ _)) ; first | ((with_reducible apply go_fn_bool); rfl; (exact c1); rfl) | ((with_reducible apply go_fn_bool); rfl; (exact c2); rfl))
             | (((with_reducible apply go_pick); rfl; rfl; rfl)))
           | ((with_reducible (show evOps _ _ _ _ _ _)); first
             | (with_reducible apply go_nil)
             | ((with_reducible apply go_pass); rfl; rfl; rfl)
             | ((with_reducible apply go_skip); rfl; rfl)
             | ((with_reducible apply go_pre); rfl)
             | (with_reducible apply go_pre_nil)
             | ((with_reducible apply go_suf); rfl)
             | (with_reducible apply go_suf_nil))
           | ((with_reducible (show ev _ _ _ _)); first
             | (with_reducible apply go_seq)
             | (with_reducible apply go_region)
             | ((with_reducible apply go_cond_t); rfl; rfl)
             | (((with_reducible apply go_cond); rfl) <;> (intro h; simp only [h]; try simp only [decide_eq_true_eq, decide_eq_false_iff_not, Bool.not_eq_true', Bool.not_eq_false', Bool.not_true, Bool.not_false] at h; try exact absurd trivial h))
             | ((with_reducible apply go_order); kernel_rfl; rfl)
             | (with_reducible apply go_ret)
             | (with_reducible apply go_skipc)
             | (with_reducible apply go_block)
             | (with_reducible apply go_exit))
           | (with_reducible apply go_kseq)
           | (with_reducible apply go_ksuf)
           | (with_reducible apply go_kseq_ret)
           | (with_reducible apply go_kblock_ret)
           | (with_reducible apply go_kblock_exit)
           | (with_reducible apply go_kseq_exit)
           | ((with_reducible apply end_int); rfl)
        all_goals first
          | exact absurd hlt (by omega)
          | exact hbad i hlt fun h => hk (h.1.1 hka)
          | trace_state
      · rw [decide_eq_false hk] at c1
        rw [decide_eq_false hka] at c2
        have rm' := rm hk
        have ra' := ra hka
        rw [em] at rm'
        rw [ea] at ra'
        repeat' first
           | (with_reducible apply go_op)
           | (with_reducible apply go_next)
           | ((with_reducible (show evOp _ _ _ _ _ _)); first
             | ((with_reducible (show evOp _ (.move _) _ _ _ _)) ; first | ((with_reducible apply go_mv_int); rfl; rfl) | ((with_reducible apply go_mv_bool); rfl; rfl))
             | ((with_reducible apply go_as))
             | ((with_reducible (show evOp _ (.load _ _) _ _ _ _)) ; first | ((with_reducible apply go_ld_agg); rfl; rfl; rfl; rfl) | ((with_reducible apply go_load); rfl; rfl; rfl) | ((with_reducible apply go_load_own); rfl; rfl; rfl; rfl))
             | (((with_reducible apply go_fieldAddr_own); rfl; rfl; rfl))
             | (((with_reducible apply go_index_nat); rfl; rfl; (with_reducible rfl); (intro; rfl); rfl; omega; (intro hlt)))
             | ((with_reducible (show evOp _ (.binOp _ _ _ _ _) _ _ _ _)) ; first | ((with_reducible apply go_cmp); rfl; rfl; rfl; rfl) | ((with_reducible apply go_add); rfl; rfl; rfl; omega) | ((with_reducible apply go_bin); rfl; rfl))
             | ((with_reducible (show evOp _ (.call _) _ _ _ _)) ; first | ((with_reducible apply go_len_own); rfl; rfl; rfl) | ((with_reducible apply go_fn_bool); rfl; (exact c1); rfl) | ((with_reducible apply go_fn_bool); rfl; (exact c2); rfl) | ((with_reducible apply go_fn_fr); (exact purL_agf (cs := encGrid m) rfl (by simp) rfl rfl rfl); (exact c105i); (exact scalInt); rfl))
             | (((with_reducible apply go_not); rfl; rfl))
             | (((with_reducible apply go_pick); rfl; rfl; rfl)))
           | ((with_reducible (show evOps _ _ _ _ _ _)); first
             | (with_reducible apply go_nil)
             | ((with_reducible apply go_run); rfl; rfl)
             | ((with_reducible apply go_pre); rfl)
             | (with_reducible apply go_pre_nil)
             | ((with_reducible apply go_suf); rfl)
             | (with_reducible apply go_suf_nil))
           | ((with_reducible (show ev _ _ _ _)); first
             | (with_reducible apply go_seq)
             | (with_reducible apply go_region)
             | (((with_reducible apply go_cond); rfl) <;> (intro h; simp only [h]; try simp only [decide_eq_true_eq, decide_eq_false_iff_not, Bool.not_eq_true', Bool.not_eq_false', Bool.not_true, Bool.not_false] at h; try exact absurd trivial h))
             | ((with_reducible apply go_order); kernel_rfl; rfl)
             | (with_reducible apply go_ret)
             | (with_reducible apply go_skipc)
             | (with_reducible apply go_block)
             | (with_reducible apply go_exit))
           | (with_reducible apply go_kseq)
           | (with_reducible apply go_ksuf)
           | (with_reducible apply go_kseq_ret)
           | (with_reducible apply go_kblock_ret)
           | (with_reducible apply go_kblock_exit)
           | (with_reducible apply go_kseq_exit)
           | ((with_reducible apply end_int); rfl)
        all_goals try exact absurd hlt (by omega)
        all_goals try (refine hbad i hlt fun h => ?_; have hne : lv a.levels i ≠ lv m.levels i := (by omega); have := (h.2 hk hne).1; omega)
        · have he : lv a.levels i = lv m.levels i := by rw [em, ea]; assumption
          exact ⟨‹i < m.levels.length›, hnx ⟨⟨fun h => absurd h hka, fun h => absurd h hk⟩, fun _ h => absurd he h⟩, entails_eq (nx := 32) (k := 1) (ns := []) (ks := [32, 31, 8, 3, 4, 5]) [(0, 0), (1, 1), (2, 2), (3, 3), (4, 4)] rfl (by simp) (by kernel_rfl)⟩
        · have hne : lv a.levels i ≠ lv m.levels i := by rw [em, ea]; assumption
          have hle : lv a.levels i ≤ lv m.levels i := by rw [em, ea]; omega
          have hNm : ∀ j (hj : j < (nearL m i m.levels.length).length), ∃ k : Nat, k < m.levels.length ∧ (nearL m i m.levels.length)[j] = k ∧ besideE m i k = true := fun j hj => (nearL_mem m i _ _).1 (List.getElem_mem hj)
          have hNl := nearL_len m i m.levels.length
          have hheld := heldB_iff (g := g) (m := m) (a := a.levels) (i := i)
          clear c105i
          generalize nearL m i m.levels.length = N at *
          refine go_count N.length (fun j => ⟨[(81, .int .i64 j), (80, .int .i64 N.length), (79, .os 5 0 N.length), (9, .int .i64 i), (32, .int .i64 i), (31, .int .i64 m.levels.length), (8, .op 3 0 0), (3, .op 0 0 0), (4, .op 1 0 0), (5, .op 2 0 0)], [(5, ⟨1, true, N.map encInt⟩), (0, ⟨2, true, [encGround g]⟩), (1, ⟨6, true, [encGrid m]⟩), (2, ⟨6, true, [encGrid a]⟩), (3, ⟨7, false, [encGrid m ++ [.os 4 0 (runsE g m).length]]⟩), (4, ⟨1, true, (runsE g m).map encInt⟩)], 32, 108⟩) (fun j => heldB g m a.levels i (N.take j) = false)
            (entails_eq (nx := 32) (k := 1) (ns := []) (ks := [81, 80, 79, 9, 32, 31, 8, 3, 4, 5]) [(1536, 5), (0, 0), (1, 1), (2, 2), (3, 3), (4, 4)] rfl (by simp) (by kernel_rfl)) rfl ?_
          intro j hj hbj
          by_cases hlj : j < N.length
          · obtain ⟨k2, hk2, ek2, hb2⟩ := hNm j hlj
            have hx : N[j].toNat < a.levels.length := by omega
            have ek3 : N[j].toNat = k2 := by omega
            have ex := lv_get hx
            have rx := ha.rng N[j].toNat hx
            have al := allowE_bd hg hm i N[j].toNat
            have hsc := heldB_succ (g := g) (m := m) (a := a.levels) (i := i) hlj
            rw [hbj, Bool.false_or] at hsc
            have c3 := c104L a N[j] (by omega) (by omega)
            have c4 : Contract Try.prog 106 [.agg (encSlopes g m), .int .i64 i, .int .i64 N[j]] (.ret (.int .i64 (allowE g m i N[j].toNat))) := c106L g hg m hm (i : Int) N[j] (by omega) (by omega)
            by_cases hkx : lv a.levels N[j].toNat = 30000
            · rw [decide_eq_true hkx] at hsc c3
              have hsc : heldB g m a.levels i (N.take (j + 1)) = false := hsc
              repeat' first
           | (with_reducible apply go_op)
           | (with_reducible apply go_next)
           | ((with_reducible (show evOp _ _ _ _ _ _)); first
             | ((with_reducible (show evOp _ (.move _) _ _ _ _)) ; first | ((with_reducible apply go_mv_int); rfl; rfl) | ((with_reducible apply go_mv_bool); rfl; rfl))
             | ((with_reducible apply go_as))
             | ((with_reducible (show evOp _ (.load _ _) _ _ _ _)) ; first | ((with_reducible apply go_load_om); rfl; rfl; rfl; rfl; rotate_left; assumption) | ((with_reducible apply go_ld_agg); rfl; rfl; rfl; rfl))
             | (((with_reducible apply go_index_om); rfl; rfl; rfl; (with_reducible rfl); rfl; rfl; omega; (intro hlt)))
             | ((with_reducible (show evOp _ (.binOp _ _ _ _ _) _ _ _ _)) ; first | ((with_reducible apply go_cmp); rfl; rfl; rfl; rfl) | ((with_reducible apply go_add); rfl; rfl; rfl; omega))
             | (((with_reducible apply go_fn_bool); rfl; (exact c3); rfl))
             | (((with_reducible apply go_pick); rfl; rfl; rfl)))
           | ((with_reducible (show evOps _ _ _ _ _ _)); first
             | (with_reducible apply go_nil)
             | ((with_reducible apply go_pass); rfl; rfl; rfl)
             | ((with_reducible apply go_pre); rfl)
             | (with_reducible apply go_pre_nil)
             | ((with_reducible apply go_suf); rfl)
             | (with_reducible apply go_suf_nil))
           | ((with_reducible (show ev _ _ _ _)); first
             | (with_reducible apply go_seq)
             | (with_reducible apply go_region)
             | ((with_reducible apply go_cond_f); rfl; rfl)
             | (((with_reducible apply go_cond); rfl) <;> (intro h; simp only [h]; try simp only [decide_eq_true_eq, decide_eq_false_iff_not, Bool.not_eq_true', Bool.not_eq_false', Bool.not_true, Bool.not_false] at h; try exact absurd trivial h))
             | ((with_reducible apply go_order); kernel_rfl; rfl)
             | (with_reducible apply go_ret)
             | (with_reducible apply go_skipc)
             | (with_reducible apply go_block)
             | (with_reducible apply go_exit))
           | (with_reducible apply go_kseq)
           | (with_reducible apply go_ksuf)
           | (with_reducible apply go_kseq_ret)
           | (with_reducible apply go_kblock)
           | (with_reducible apply go_kblock_ret)
           | (with_reducible apply go_kblock_exit)
           | (with_reducible apply go_kseq_exit)
           | ((with_reducible apply end_int); rfl)
              all_goals first
                | exact absurd hlj (by omega)
                | exact ⟨‹j < N.length›, hsc, entails_eq (nx := 32) (k := 1) (ns := []) (ks := [81, 80, 79, 9, 32, 31, 8, 3, 4, 5]) [(5, 5), (0, 0), (1, 1), (2, 2), (3, 3), (4, 4)] rfl (by simp) (by kernel_rfl)⟩
                | trace_state
            · rw [decide_eq_false hkx] at hsc c3
              have rx' := rx hkx
              rw [ex] at rx'
              rw [ex, ea] at hsc
              have hsc : heldB g m a.levels i (N.take (j + 1)) = decide (a.levels[i] = a.levels[N[j].toNat] + allowE g m i N[j].toNat) := hsc
              repeat' first
           | (with_reducible apply go_op)
           | (with_reducible apply go_next)
           | ((with_reducible (show evOp _ _ _ _ _ _)); first
             | ((with_reducible (show evOp _ (.move _) _ _ _ _)) ; first | ((with_reducible apply go_mv_int); rfl; rfl) | ((with_reducible apply go_mv_bool); rfl; rfl))
             | ((with_reducible apply go_as))
             | ((with_reducible (show evOp _ (.load _ _) _ _ _ _)) ; first | ((with_reducible apply go_load_om); rfl; rfl; rfl; rfl; rotate_left; assumption) | ((with_reducible apply go_ld_agg); rfl; rfl; rfl; rfl) | ((with_reducible apply go_load); rfl; rfl; rfl) | ((with_reducible apply go_load_own); rfl; rfl; rfl; rfl))
             | (((with_reducible apply go_fieldAddr_own); rfl; rfl; rfl))
             | ((with_reducible (show evOp _ (.indexAddr _ _ _) _ _ _ _)) ; first | ((with_reducible apply go_index_nat); rfl; rfl; (with_reducible rfl); (intro; rfl); rfl; omega; (intro hlt)) | ((with_reducible apply go_index_om); rfl; rfl; rfl; (with_reducible rfl); rfl; rfl; omega; (intro hlt)) | ((with_reducible apply go_index); rfl; rfl; (intro; rfl); rfl; omega; intro hlt))
             | ((with_reducible (show evOp _ (.binOp _ _ _ _ _) _ _ _ _)) ; first | ((with_reducible apply go_cmp); rfl; rfl; rfl; rfl) | ((with_reducible apply go_add); rfl; rfl; rfl; omega) | ((with_reducible apply go_sub); rfl; rfl; rfl; omega))
             | ((with_reducible (show evOp _ (.call _) _ _ _ _)) ; first | ((with_reducible apply go_fn_bool); rfl; (exact c3); rfl) | ((with_reducible apply go_fn_int); (exact purL_agf (cs := encGrid m) rfl (by simp; try assumption) rfl rfl rfl); (exact c4); rfl))
             | (((with_reducible apply go_pick); rfl; rfl; rfl)))
           | ((with_reducible (show evOps _ _ _ _ _ _)); first
             | (with_reducible apply go_nil)
             | ((with_reducible apply go_run); rfl; rfl)
             | ((with_reducible apply go_pre); rfl)
             | (with_reducible apply go_pre_nil)
             | ((with_reducible apply go_suf); rfl)
             | (with_reducible apply go_suf_nil))
           | ((with_reducible (show ev _ _ _ _)); first
             | (with_reducible apply go_seq)
             | (with_reducible apply go_region)
             | (((with_reducible apply go_cond); rfl) <;> (intro h; simp only [h]; try simp only [decide_eq_true_eq, decide_eq_false_iff_not, Bool.not_eq_true', Bool.not_eq_false', Bool.not_true, Bool.not_false] at h; try exact absurd trivial h))
             | ((with_reducible apply go_order); kernel_rfl; rfl)
             | (with_reducible apply go_ret)
             | (with_reducible apply go_skipc)
             | (with_reducible apply go_block)
             | (with_reducible apply go_exit))
           | (with_reducible apply go_kseq)
           | (with_reducible apply go_ksuf)
           | (with_reducible apply go_kseq_ret)
           | (with_reducible apply go_kblock)
           | (with_reducible apply go_kblock_ret)
           | (with_reducible apply go_kblock_exit)
           | ((with_reducible apply go_kblock_other); rfl)
           | (with_reducible apply go_kseq_exit)
           | ((with_reducible apply end_int); rfl)
              all_goals try exact absurd hlj (by omega)
              · refine ⟨by omega, hnx ⟨⟨fun h => absurd h hka, fun h => absurd h hk⟩, fun _ _ => ⟨hle, k2, hk2, hb2, by rw [← ek3]; exact hkx, ?_⟩⟩, entails_eq (nx := 32) (k := 1) (ns := []) (ks := [32, 31, 8, 3, 4, 5]) [(0, 0), (1, 1), (2, 2), (3, 3), (4, 4)] rfl (by simp) (by kernel_rfl)⟩
                rw [← ek3, ea, ex]
                omega
              · exact ⟨‹j < N.length›, by rw [hsc]; exact decide_eq_false (by omega), entails_eq (nx := 32) (k := 1) (ns := []) (ks := [81, 80, 79, 9, 32, 31, 8, 3, 4, 5]) [(5, 5), (0, 0), (1, 1), (2, 2), (3, 3), (4, 4)] rfl (by simp) (by kernel_rfl)⟩
          · rw [List.take_of_length_le (by omega)] at hbj
            repeat' first
           | (with_reducible apply go_op)
           | (with_reducible apply go_next)
           | ((with_reducible (show evOp _ _ _ _ _ _)); first
             | (((with_reducible apply go_mv_int); rfl; rfl))
             | ((with_reducible apply go_as))
             | ((with_reducible (show evOp _ (.load _ _) _ _ _ _)) ; first | ((with_reducible apply go_load_om); rfl; rfl; rfl; rfl; rotate_left; assumption) | ((with_reducible apply go_ld_agg); rfl; rfl; rfl; rfl))
             | (((with_reducible apply go_index_om); rfl; rfl; rfl; (with_reducible rfl); rfl; rfl; omega; (intro hlt)))
             | (((with_reducible apply go_cmp); rfl; rfl; rfl; rfl)))
           | ((with_reducible (show evOps _ _ _ _ _ _)); first
             | (with_reducible apply go_nil)
             | ((with_reducible apply go_pre); rfl))
           | ((with_reducible (show ev _ _ _ _)); first
             | (with_reducible apply go_seq)
             | (with_reducible apply go_region)
             | (((with_reducible apply go_cond); rfl) <;> (intro h; simp only [h]; try simp only [decide_eq_true_eq, decide_eq_false_iff_not, Bool.not_eq_true', Bool.not_eq_false', Bool.not_true, Bool.not_false] at h; try exact absurd trivial h))
             | ((with_reducible apply go_order); kernel_rfl; rfl)
             | (with_reducible apply go_ret)
             | (with_reducible apply go_skipc)
             | (with_reducible apply go_block)
             | (with_reducible apply go_exit))
           | (with_reducible apply go_kseq)
           | (with_reducible apply go_kseq_ret)
           | (with_reducible apply go_kblock_ret)
           | (with_reducible apply go_kblock_exit)
           | (with_reducible apply go_kseq_exit)
           | ((with_reducible apply end_int); rfl)
            all_goals first
              | exact absurd hlj (by omega)
              | exact hbad i hlt fun h => by
                  have := hheld.2 (h.2 hk hne).2
                  rw [hbj] at this
                  cases this
              | trace_state
  · have e : i = m.levels.length := by omega
    repeat' first
           | (with_reducible apply go_op)
           | (with_reducible apply go_next)
           | ((with_reducible (show evOp _ _ _ _ _ _)); first
             | (((with_reducible apply go_mv_int); rfl; rfl))
             | ((with_reducible apply go_as))
             | (((with_reducible apply go_ld_agg); rfl; rfl; rfl; rfl))
             | (((with_reducible apply go_cmp); rfl; rfl; rfl; rfl)))
           | ((with_reducible (show evOps _ _ _ _ _ _)); first
             | (with_reducible apply go_nil)
             | ((with_reducible apply go_pre); rfl))
           | ((with_reducible (show ev _ _ _ _)); first
             | (with_reducible apply go_seq)
             | (with_reducible apply go_region)
             | (((with_reducible apply go_cond); rfl) <;> (intro h; simp only [h]; try simp only [decide_eq_true_eq, decide_eq_false_iff_not, Bool.not_eq_true', Bool.not_eq_false', Bool.not_true, Bool.not_false] at h; try exact absurd trivial h))
             | ((with_reducible apply go_order); kernel_rfl; rfl)
             | (with_reducible apply go_ret)
             | (with_reducible apply go_skipc)
             | (with_reducible apply go_block)
             | (with_reducible apply go_exit))
           | (with_reducible apply go_kseq)
           | (with_reducible apply go_kblock_exit)
           | (with_reducible apply go_kseq_exit)
           | ((with_reducible apply end_int); rfl)
    all_goals first
      | exact absurd hlt (by omega)
      | exact (if_pos (hpr.1 ⟨fun j hj => hC j (by omega), hstb⟩)).symm
      | trace_state

/-- Whether a bed is accepted. -/
noncomputable def acceptE (g : Ground) (m a : Grid) : Int := if griddedE g [m, a] ≠ 0 then griddedE g [m, a] else if a.levels = slumpE g m (-1) then 0 else 21
theorem c56 (g : Ground) (hsl : g.soils.length < 1000000000000) (hbl : g.borings.length < 1000000000000) (m a : Grid) (hl : m.levels.length < 1000000000000) (hla' : a.levels.length < 1000000000000) :
    Contract Try.prog 56 [.agg (encGround g), .agg (encGrid m), .agg (encGrid a)] (.ret (.int .i64 (acceptE g m a))) := by
  by_cases hge : griddedE g [m, a] = 0
  · have e : acceptE g m a = if a.levels = slumpE g m (-1) then 0 else 21 := by unfold acceptE; rw [if_neg (fun h => h hge)]
    rw [e]
    exact good56 g hsl hbl m a hl hla' hge
  · have e : acceptE g m a = griddedE g [m, a] := by unfold acceptE; rw [if_pos hge]
    rw [e]
    have h93 := c93 g hsl hbl [m, a] (by simp) (by intro x hx; simp at hx; rcases hx with rfl | rfl <;> assumption)
    generalize griddedE g [m, a] = ge at *
    refine contract_of mix Try.func56 rfl rfl (by rw [Try.ntmps56]; exact Nat.le_of_ble_eq_true rfl) ?_; rw [Try.results56, Try.ntmps56]; simp only [argsE, Nat.reduceAdd]
    repeat' first
           | (with_reducible apply go_op)
           | (with_reducible apply go_next)
           | ((with_reducible (show evOp _ _ _ _ _ _)); first
             | (((with_reducible apply go_mv_int); rfl; rfl))
             | ((with_reducible apply go_as))
             | (((with_reducible apply go_ld_agg); rfl; rfl; rfl; rfl))
             | (((with_reducible apply go_cmp); rfl; rfl; rfl; rfl))
             | (((with_reducible apply go_fn_int); rfl; (exact h93); rfl))
             | (((with_reducible apply go_bd1_agg); rfl; rfl; rfl; rfl))
             | (((with_reducible apply go_bx_agg); rfl; rfl; (exact Nat.le_of_ble_eq_true rfl); rfl; rfl))
             | (((with_reducible apply go_bs2_agg); rfl; rfl; rfl; rfl; rfl; rfl; rfl; rfl)))
           | ((with_reducible (show evOps _ _ _ _ _ _)); first
             | (with_reducible apply go_nil))
           | ((with_reducible (show ev _ _ _ _)); first
             | (with_reducible apply go_seq)
             | (with_reducible apply go_region)
             | (((with_reducible apply go_cond); rfl) <;> (intro h; simp only [h]; try simp only [decide_eq_true_eq, decide_eq_false_iff_not, Bool.not_eq_true', Bool.not_eq_false', Bool.not_true, Bool.not_false] at h; try exact absurd trivial h))
             | (with_reducible apply go_ret)
             | (with_reducible apply go_skipc)
             | (with_reducible apply go_scope))
           | (with_reducible apply go_kseq)
           | (with_reducible apply go_kseq_ret)
           | ((with_reducible apply end_int); rfl)
           | (with_reducible rfl)
    all_goals first | rfl | exact absurd ‹ge = 0› hge
end Go.Pv.Soil

import Derived.Test.YtdedpndkohfgbaaProg
import Derived.Test.YtdedpndkohfgbaaQG
import Derived.Test.YtdedpndkohfgbaaQD
import Derived.KernelRfl
/- Part of the proofs over Ytdedpndkohfgbaa: S21. -/
set_option linter.unusedVariables false
set_option linter.unusedSimpArgs false
set_option linter.unnecessarySimpa false
open Go Go.Proofs Go.Pv
set_option maxHeartbeats 2000000
set_option maxRecDepth 100000
set_option linter.unusedSimpArgs false
set_option linter.unusedVariables false
namespace Go.Pv.Soil

/-- The error of a ground and a place. -/
def gpE (g : Ground) (p : Pt) : Int := if groundE g ≠ 0 then groundE g else if ptOK p = false then 2 else 0

theorem asked_gp {g : Ground} {p : Pt} {l : List Int} (h : gpE g p ≠ 0) : askedE g p l = gpE g p := by
  unfold gpE at h ⊢
  unfold askedE
  split
  · rfl
  · rename_i h1
    rw [if_neg h1] at h
    split at h
    · rename_i h2; rw [if_pos (.inl h2), if_pos h2]
    · omega
theorem asked_ok {g : Ground} {p : Pt} {l : List Int} (h : gpE g p = 0) : askedE g p l = if (l.any fun n => !lvOK n) = true then 2 else 0 := by
  unfold gpE at h
  unfold askedE
  split at h
  · omega
  · rename_i h1
    split at h
    · omega
    · rename_i h2
      rw [if_neg h1]
      simp [h2]
theorem gp_ok {g : Ground} {p : Pt} (h : gpE g p = 0) : groundE g = 0 ∧ ptOK p = true := by
  unfold gpE at h
  split at h
  · omega
  · rename_i h1
    split at h
    · omega
    · rename_i h2
      exact ⟨by simpa using h1, by simpa using h2⟩

def encAt2 (x : Int × Int) : List D := [.int .i64 x.1, .int .i64 x.2]

theorem c10 (g : Ground) (p : Pt) (x : Int × Int) : Contract Try.prog 10 [.agg (encGround g), .agg (encPt p), .agg (encAt2 x)] (.ret (.bool true)) := by
  obtain ⟨a, b⟩ := x
  cases hs : slightE g
  · have h19 : Contract Try.prog 19 [.agg (encGround g)] (.ret (.bool false)) := hs ▸ c19 g
    refine contract_of mix Try.func10 rfl rfl (by rw [Try.ntmps10]; exact Nat.le_of_ble_eq_true rfl) ?_; rw [Try.results10, Try.ntmps10]; simp only [argsE, Nat.reduceAdd]
    repeat' first
           | (with_reducible apply go_op)
           | (with_reducible apply go_next)
           | ((with_reducible (show evOp _ _ _ _ _ _)); first
             | (((with_reducible apply go_mv_bool); rfl; rfl))
             | ((with_reducible apply go_as))
             | (((with_reducible apply go_ld_agg); rfl; rfl; rfl; rfl))
             | ((with_reducible (show evOp _ (.call _) _ _ _ _)) ; first | ((with_reducible apply go_fn_bool); rfl; (exact c18); rfl) | ((with_reducible apply go_fn_bool); rfl; (exact h19); rfl))
             | (((with_reducible apply go_not); rfl; rfl))
             | (((with_reducible apply go_bx_agg); rfl; rfl; (exact Nat.le_of_ble_eq_true rfl); rfl; rfl)))
           | ((with_reducible (show evOps _ _ _ _ _ _)); first
             | (with_reducible apply go_nil))
           | ((with_reducible (show evG _ _ _ _ _)); first
             | (with_reducible apply go_seq)
             | (with_reducible apply go_region)
             | ((with_reducible apply go_cond_t); rfl; rfl)
             | ((with_reducible apply go_cond_f); rfl; rfl)
             | (with_reducible apply go_ret)
             | (with_reducible apply go_skipc))
           | (with_reducible apply go_kseq)
           | (with_reducible apply go_kseq_ret)
           | ((with_reducible apply end_bool); rfl)
           | (with_reducible rfl)
  · have h19 : Contract Try.prog 19 [.agg (encGround g)] (.ret (.bool true)) := hs ▸ c19 g
    obtain ⟨hl, hb⟩ := slight_len hs
    have hl' : g.soils.length < 1000000000000 := by omega
    have hb' : g.borings.length < 1000000000000 := by omega
    have h23 := c23 g hl' hb'
    have h45 := c45 g hl' hb' p
    have h43 := c43 g hl' hb' p a
    have h42 := c42 g hl' hb' p a b
    by_cases h0 : gpE g p = 0
    · obtain ⟨h1, h2⟩ := gp_ok h0
      have hg := okG h1
      have e45 : nearRE g p = ((nearE g p : Int), 0) := by simp only [nearRE, asked_ok (l := []) h0]; rfl
      rw [e45] at h45
      rw [h1] at h23
      have h46 : Contract Try.prog 46 [.agg (encPt p)] (.ret (.bool true)) := h2 ▸ c46 p
      have h47 := c47 g hg p h2
      have h49 := c49 g hg p h2 a
      have h51 := c51 g hg p h2 a b
      have h50 := c50 (columnE g p a b) (by
        have hn := near_lt (p := p) hg.n.1
        have := colE_len g.borings[nearE g p] a b g.borings[nearE g p].layers.length
        have := (hg.bor _ hn).len
        simp only [columnE, List.getElem?_eq_getElem hn]; omega)
      cases ha : lvOK a
      · have h48 : Contract Try.prog 48 [.int .i64 a] (.ret (.bool false)) := ha ▸ c48 a
        have e43 : atE g p a = (.empty, 2) := by simp only [atE, asked_ok (l := [a]) h0]; simp [ha]
        have e42 : columnRE g p a b = ([], 2) := by simp only [columnRE, asked_ok (l := [a, b]) h0]; simp [ha]
        rw [e43] at h43
        rw [e42] at h42
        refine contract_of mix Try.func10 rfl rfl (by rw [Try.ntmps10]; exact Nat.le_of_ble_eq_true rfl) ?_; rw [Try.results10, Try.ntmps10]; simp only [argsE, Nat.reduceAdd]
        repeat' first
           | (with_reducible apply go_op)
           | (with_reducible apply go_next)
           | ((with_reducible (show evOp _ _ _ _ _ _)); first
             | ((with_reducible (show evOp _ (.move _) _ _ _ _)) ; first | ((with_reducible apply go_mv_int); rfl; rfl) | ((with_reducible apply go_mv_bool); rfl; rfl) | ((with_reducible apply go_mv_os); rfl; rfl) | ((with_reducible apply go_mv_tup); rfl; rfl) | ((with_reducible apply go_mv_str); rfl; rfl))
             | ((with_reducible apply go_as))
             | ((with_reducible (show evOp _ (.load _ _) _ _ _ _)) ; first | ((with_reducible apply go_ld_agg); rfl; rfl; rfl; rfl) | ((with_reducible apply go_load_own); rfl; rfl; rfl; rfl))
             | (((with_reducible apply go_index_arr); rfl; rfl; rfl; rfl; omega))
             | ((with_reducible (show evOp _ (.binOp _ _ _ _ _) _ _ _ _)) ; first | ((with_reducible apply go_cmp); rfl; rfl; rfl; rfl) | ((with_reducible apply go_bin); rfl; rfl))
             | ((with_reducible (show evOp _ (.call _) _ _ _ _)) ; first | ((with_reducible apply go_len_own); rfl; rfl; rfl) | ((with_reducible apply go_fn_bool); rfl; (exact c18); rfl) | ((with_reducible apply go_fn_bool); rfl; (exact h19); rfl) | ((with_reducible apply go_fn_plain); rfl; (exact h45); rfl; (exact Nat.le_of_ble_eq_true rfl); rfl) | ((with_reducible apply go_fn_plain); rfl; (exact h43); rfl; (exact Nat.le_of_ble_eq_true rfl); rfl) | ((with_reducible apply go_fn_fr2); rfl; (exact h42); (exact scalPart); rfl; rfl) | ((with_reducible apply go_fn_int); rfl; (exact h23); rfl) | ((with_reducible apply go_fn_bool); rfl; (exact h46); rfl) | ((with_reducible apply go_fn_int); rfl; (exact h47); rfl) | ((with_reducible apply go_fn_bool); rfl; (exact h48); rfl))
             | (((with_reducible apply go_not); rfl; rfl))
             | (((with_reducible apply go_extract); rfl; rfl))
             | (((with_reducible apply go_pick); rfl; rfl; rfl))
             | (((with_reducible apply go_bx_agg); rfl; rfl; (exact Nat.le_of_ble_eq_true rfl); rfl; rfl)))
           | ((with_reducible (show evOps _ _ _ _ _ _)); first
             | (with_reducible apply go_nil)
             | ((with_reducible apply go_run); rfl; rfl))
           | ((with_reducible (show evG _ _ _ _ _)); first
             | (with_reducible apply go_seq)
             | (with_reducible apply go_region)
             | ((with_reducible apply go_cond_t); rfl; rfl)
             | ((with_reducible apply go_cond_f); rfl; rfl)
             | (((with_reducible apply go_cond); rfl) <;> (intro h; simp only [h]; try simp only [decide_eq_true_eq, decide_eq_false_iff_not, Bool.not_eq_true', Bool.not_eq_false', Bool.not_true, Bool.not_false] at h; try exact absurd trivial h))
             | (with_reducible apply go_ret)
             | (with_reducible apply go_skipc))
           | (with_reducible apply go_kseq)
           | (with_reducible apply go_kseq_ret)
           | ((with_reducible apply end_bool); rfl)
        all_goals simp
      · have h48 : Contract Try.prog 48 [.int .i64 a] (.ret (.bool true)) := ha ▸ c48 a
        have e43 : atE g p a = (soilAt g p a, 0) := by simp only [atE, asked_ok (l := [a]) h0]; simp [ha]
        rw [e43] at h43
        cases hbb : lvOK b
        · have h48' : Contract Try.prog 48 [.int .i64 b] (.ret (.bool false)) := hbb ▸ c48 b
          have e42 : columnRE g p a b = ([], 2) := by simp only [columnRE, asked_ok (l := [a, b]) h0]; simp [hbb]
          rw [e42] at h42
          refine contract_of mix Try.func10 rfl rfl (by rw [Try.ntmps10]; exact Nat.le_of_ble_eq_true rfl) ?_; rw [Try.results10, Try.ntmps10]; simp only [argsE, Nat.reduceAdd]
          repeat' first
           | (with_reducible apply go_op)
           | (with_reducible apply go_next)
           | ((with_reducible (show evOp _ _ _ _ _ _)); first
             | ((with_reducible (show evOp _ (.move _) _ _ _ _)) ; first | ((with_reducible apply go_mv_int); rfl; rfl) | ((with_reducible apply go_mv_bool); rfl; rfl) | ((with_reducible apply go_mv_os); rfl; rfl) | ((with_reducible apply go_mv_tup); rfl; rfl) | ((with_reducible apply go_mv_str); rfl; rfl))
             | ((with_reducible apply go_as))
             | ((with_reducible (show evOp _ (.load _ _) _ _ _ _)) ; first | ((with_reducible apply go_ld_agg); rfl; rfl; rfl; rfl) | ((with_reducible apply go_load_own); rfl; rfl; rfl; rfl))
             | (((with_reducible apply go_index_arr); rfl; rfl; rfl; rfl; omega))
             | ((with_reducible (show evOp _ (.binOp _ _ _ _ _) _ _ _ _)) ; first | ((with_reducible apply go_cmp); rfl; rfl; rfl; rfl) | ((with_reducible apply go_bin); rfl; rfl))
             | ((with_reducible (show evOp _ (.call _) _ _ _ _)) ; first | ((with_reducible apply go_len_own); rfl; rfl; rfl) | ((with_reducible apply go_fn_bool); rfl; (exact c18); rfl) | ((with_reducible apply go_fn_bool); rfl; (exact h19); rfl) | ((with_reducible apply go_fn_plain); rfl; (exact h45); rfl; (exact Nat.le_of_ble_eq_true rfl); rfl) | ((with_reducible apply go_fn_plain); rfl; (exact h43); rfl; (exact Nat.le_of_ble_eq_true rfl); rfl) | ((with_reducible apply go_fn_fr2); rfl; (exact h42); (exact scalPart); rfl; rfl) | ((with_reducible apply go_fn_int); rfl; (exact h23); rfl) | ((with_reducible apply go_fn_bool); rfl; (exact h46); rfl) | ((with_reducible apply go_fn_int); rfl; (exact h47); rfl) | ((with_reducible apply go_fn_bool); rfl; (exact h48); rfl) | ((with_reducible apply go_fn_plain); rfl; (exact h49); rfl; (exact Nat.le_of_ble_eq_true rfl); rfl) | ((with_reducible apply go_fn_bool); rfl; (exact h48'); rfl))
             | (((with_reducible apply go_not); rfl; rfl))
             | (((with_reducible apply go_extract); rfl; rfl))
             | (((with_reducible apply go_pick); rfl; rfl; rfl))
             | (((with_reducible apply go_bx_agg); rfl; rfl; (exact Nat.le_of_ble_eq_true rfl); rfl; rfl)))
           | ((with_reducible (show evOps _ _ _ _ _ _)); first
             | (with_reducible apply go_nil)
             | ((with_reducible apply go_run); rfl; rfl))
           | ((with_reducible (show evG _ _ _ _ _)); first
             | (with_reducible apply go_seq)
             | (with_reducible apply go_region)
             | ((with_reducible apply go_cond_t); rfl; rfl)
             | ((with_reducible apply go_cond_f); rfl; rfl)
             | (((with_reducible apply go_cond); rfl) <;> (intro h; simp only [h]; try simp only [decide_eq_true_eq, decide_eq_false_iff_not, Bool.not_eq_true', Bool.not_eq_false', Bool.not_true, Bool.not_false] at h; try exact absurd trivial h))
             | (with_reducible apply go_ret)
             | (with_reducible apply go_skipc))
           | (with_reducible apply go_kseq)
           | (with_reducible apply go_kseq_ret)
           | ((with_reducible apply end_bool); rfl)
          all_goals simp
        · have h48' : Contract Try.prog 48 [.int .i64 b] (.ret (.bool true)) := hbb ▸ c48 b
          by_cases hab : a < b
          · have e42 : columnRE g p a b = ([], 9) := by simp only [columnRE, asked_ok (l := [a, b]) h0]; simp [ha, hbb, hab]
            rw [e42] at h42
            refine contract_of mix Try.func10 rfl rfl (by rw [Try.ntmps10]; exact Nat.le_of_ble_eq_true rfl) ?_; rw [Try.results10, Try.ntmps10]; simp only [argsE, Nat.reduceAdd]
            repeat' first
           | (with_reducible apply go_op)
           | (with_reducible apply go_next)
           | ((with_reducible (show evOp _ _ _ _ _ _)); first
             | ((with_reducible (show evOp _ (.move _) _ _ _ _)) ; first | ((with_reducible apply go_mv_int); rfl; rfl) | ((with_reducible apply go_mv_bool); rfl; rfl) | ((with_reducible apply go_mv_os); rfl; rfl) | ((with_reducible apply go_mv_tup); rfl; rfl) | ((with_reducible apply go_mv_str); rfl; rfl))
             | ((with_reducible apply go_as))
             | ((with_reducible (show evOp _ (.load _ _) _ _ _ _)) ; first | ((with_reducible apply go_ld_agg); rfl; rfl; rfl; rfl) | ((with_reducible apply go_load_own); rfl; rfl; rfl; rfl))
             | (((with_reducible apply go_index_arr); rfl; rfl; rfl; rfl; omega))
             | ((with_reducible (show evOp _ (.binOp _ _ _ _ _) _ _ _ _)) ; first | ((with_reducible apply go_cmp); rfl; rfl; rfl; rfl) | ((with_reducible apply go_bin); rfl; rfl))
             | ((with_reducible (show evOp _ (.call _) _ _ _ _)) ; first | ((with_reducible apply go_len_own); rfl; rfl; rfl) | ((with_reducible apply go_fn_bool); rfl; (exact c18); rfl) | ((with_reducible apply go_fn_bool); rfl; (exact h19); rfl) | ((with_reducible apply go_fn_plain); rfl; (exact h45); rfl; (exact Nat.le_of_ble_eq_true rfl); rfl) | ((with_reducible apply go_fn_plain); rfl; (exact h43); rfl; (exact Nat.le_of_ble_eq_true rfl); rfl) | ((with_reducible apply go_fn_fr2); rfl; (exact h42); (exact scalPart); rfl; rfl) | ((with_reducible apply go_fn_int); rfl; (exact h23); rfl) | ((with_reducible apply go_fn_bool); rfl; (exact h46); rfl) | ((with_reducible apply go_fn_int); rfl; (exact h47); rfl) | ((with_reducible apply go_fn_bool); rfl; (exact h48); rfl) | ((with_reducible apply go_fn_plain); rfl; (exact h49); rfl; (exact Nat.le_of_ble_eq_true rfl); rfl) | ((with_reducible apply go_fn_bool); rfl; (exact h48'); rfl))
             | (((with_reducible apply go_not); rfl; rfl))
             | (((with_reducible apply go_extract); rfl; rfl))
             | (((with_reducible apply go_pick); rfl; rfl; rfl))
             | (((with_reducible apply go_bx_agg); rfl; rfl; (exact Nat.le_of_ble_eq_true rfl); rfl; rfl)))
           | ((with_reducible (show evOps _ _ _ _ _ _)); first
             | (with_reducible apply go_nil)
             | ((with_reducible apply go_run); rfl; rfl)
             | ((with_reducible apply go_pass); rfl; rfl; rfl))
           | ((with_reducible (show evG _ _ _ _ _)); first
             | (with_reducible apply go_seq)
             | (with_reducible apply go_region)
             | ((with_reducible apply go_cond_f); rfl; rfl)
             | (((with_reducible apply go_cond); rfl) <;> (intro h; simp only [h]; try simp only [decide_eq_true_eq, decide_eq_false_iff_not, Bool.not_eq_true', Bool.not_eq_false', Bool.not_true, Bool.not_false] at h; try exact absurd trivial h))
             | (with_reducible apply go_ret)
             | (with_reducible apply go_skipc))
           | (with_reducible apply go_kseq)
           | (with_reducible apply go_kseq_ret)
           | ((with_reducible apply end_bool); rfl)
            all_goals first | (exact absurd hab (by assumption)) | simp
          · have e42 : columnRE g p a b = (columnE g p a b, 0) := by simp only [columnRE, asked_ok (l := [a, b]) h0]; simp [ha, hbb, hab]
            rw [e42] at h42
            refine contract_of mix Try.func10 rfl rfl (by rw [Try.ntmps10]; exact Nat.le_of_ble_eq_true rfl) ?_; rw [Try.results10, Try.ntmps10]; simp only [argsE, Nat.reduceAdd]
            repeat' first
           | (with_reducible apply go_op)
           | (with_reducible apply go_next)
           | ((with_reducible (show evOp _ _ _ _ _ _)); first
             | ((with_reducible (show evOp _ (.move _) _ _ _ _)) ; first | ((with_reducible apply go_mv_int); rfl; rfl) | ((with_reducible apply go_mv_bool); rfl; rfl) | ((with_reducible apply go_mv_os); rfl; rfl) | ((with_reducible apply go_mv_tup); rfl; rfl) | ((with_reducible apply go_mv_str); rfl; rfl))
             | ((with_reducible apply go_as))
             | ((with_reducible (show evOp _ (.load _ _) _ _ _ _)) ; first | ((with_reducible apply go_ld_agg); rfl; rfl; rfl; rfl) | ((with_reducible apply go_load_own); rfl; rfl; rfl; rfl))
             | (((with_reducible apply go_index_arr); rfl; rfl; rfl; rfl; omega))
             | ((with_reducible (show evOp _ (.binOp _ _ _ _ _) _ _ _ _)) ; first | ((with_reducible apply go_cmp); rfl; rfl; rfl; rfl) | ((with_reducible apply go_bin); rfl; rfl))
             | ((with_reducible (show evOp _ (.call _) _ _ _ _)) ; first | ((with_reducible apply go_fn_bool); rfl; (exact c18); rfl) | ((with_reducible apply go_fn_bool); rfl; (exact h19); rfl) | ((with_reducible apply go_fn_plain); rfl; (exact h45); rfl; (exact Nat.le_of_ble_eq_true rfl); rfl) | ((with_reducible apply go_fn_plain); rfl; (exact h43); rfl; (exact Nat.le_of_ble_eq_true rfl); rfl) | ((with_reducible apply go_fn_fr2); rfl; (exact h42); (exact scalPart); rfl; rfl) | ((with_reducible apply go_fn_int); rfl; (exact h23); rfl) | ((with_reducible apply go_fn_bool); rfl; (exact h46); rfl) | ((with_reducible apply go_fn_int); rfl; (exact h47); rfl) | ((with_reducible apply go_fn_bool); rfl; (exact h48); rfl) | ((with_reducible apply go_fn_plain); rfl; (exact h49); rfl; (exact Nat.le_of_ble_eq_true rfl); rfl) | ((with_reducible apply go_fn_bool); rfl; (exact h48'); rfl) | ((with_reducible apply go_fn_fr); rfl; (exact h51); (exact scalPart); rfl))
             | (((with_reducible apply go_not); rfl; rfl))
             | (((with_reducible apply go_extract); rfl; rfl))
             | (((with_reducible apply go_pick); rfl; rfl; rfl))
             | (((with_reducible apply go_bx_agg); rfl; rfl; (exact Nat.le_of_ble_eq_true rfl); rfl; rfl)))
           | ((with_reducible (show evOps _ _ _ _ _ _)); first
             | (with_reducible apply go_nil)
             | ((with_reducible apply go_run); rfl; rfl)
             | ((with_reducible apply go_pass); rfl; rfl; rfl))
           | ((with_reducible (show evG _ _ _ _ _)); first
             | (with_reducible apply go_seq)
             | (with_reducible apply go_region)
             | ((with_reducible apply go_cond_f); rfl; rfl)
             | (((with_reducible apply go_cond); rfl) <;> (intro h; simp only [h]; try simp only [decide_eq_true_eq, decide_eq_false_iff_not, Bool.not_eq_true', Bool.not_eq_false', Bool.not_true, Bool.not_false] at h; try exact absurd trivial h))
             | (with_reducible apply go_ret)
             | (with_reducible apply go_skipc))
           | (with_reducible apply go_kseq)
           | (with_reducible apply go_kseq_ret)
           | ((with_reducible apply end_bool); rfl)
            all_goals first | (exact absurd (by assumption) hab) | skip
            refine go_fn_bool (args' := [.sl ((columnE g p a b).map encPart), .sl ((columnE g p a b).map encPart)]) (pur2_own rfl rfl rfl rfl (by simp) (by simp)) h50 rfl ?_
            repeat' first
           | (with_reducible apply go_op)
           | (with_reducible apply go_next)
           | ((with_reducible (show evOp _ _ _ _ _ _)); first
             | (((with_reducible apply go_mv_bool); rfl; rfl))
             | ((with_reducible apply go_as))
             | (((with_reducible apply go_pick); rfl; rfl; rfl)))
           | ((with_reducible (show evOps _ _ _ _ _ _)); first
             | (with_reducible apply go_nil))
           | ((with_reducible (show evG _ _ _ _ _)); first
             | (with_reducible apply go_ret))
           | (with_reducible apply go_kseq)
           | ((with_reducible apply end_bool); rfl)
           | (with_reducible rfl)
    · have e45 : nearRE g p = (0, gpE g p) := by simp only [nearRE, asked_gp h0]; rw [if_pos h0]
      have e43 : atE g p a = (.empty, gpE g p) := by simp only [atE, asked_gp h0]; rw [if_pos h0]
      have e42 : columnRE g p a b = ([], gpE g p) := by simp only [columnRE, asked_gp h0]; rw [if_pos h0]
      rw [e45] at h45
      rw [e43] at h43
      rw [e42] at h42
      by_cases hg : groundE g = 0
      · have hp : ptOK p = false := by
          unfold gpE at h0
          rw [if_neg (by simp [hg])] at h0
          split at h0
          · assumption
          · omega
        have e0 : gpE g p = 2 := by unfold gpE; rw [if_neg (by simp [hg]), if_pos hp]
        rw [e0] at h45 h43 h42
        rw [hg] at h23
        have h46 : Contract Try.prog 46 [.agg (encPt p)] (.ret (.bool false)) := hp ▸ c46 p
        refine contract_of mix Try.func10 rfl rfl (by rw [Try.ntmps10]; exact Nat.le_of_ble_eq_true rfl) ?_; rw [Try.results10, Try.ntmps10]; simp only [argsE, Nat.reduceAdd]
        repeat' first
           | (with_reducible apply go_op)
           | (with_reducible apply go_next)
           | ((with_reducible (show evOp _ _ _ _ _ _)); first
             | ((with_reducible (show evOp _ (.move _) _ _ _ _)) ; first | ((with_reducible apply go_mv_int); rfl; rfl) | ((with_reducible apply go_mv_bool); rfl; rfl) | ((with_reducible apply go_mv_os); rfl; rfl) | ((with_reducible apply go_mv_tup); rfl; rfl) | ((with_reducible apply go_mv_str); rfl; rfl))
             | ((with_reducible apply go_as))
             | ((with_reducible (show evOp _ (.load _ _) _ _ _ _)) ; first | ((with_reducible apply go_ld_agg); rfl; rfl; rfl; rfl) | ((with_reducible apply go_load_own); rfl; rfl; rfl; rfl))
             | (((with_reducible apply go_index_arr); rfl; rfl; rfl; rfl; omega))
             | ((with_reducible (show evOp _ (.binOp _ _ _ _ _) _ _ _ _)) ; first | ((with_reducible apply go_cmp); rfl; rfl; rfl; rfl) | ((with_reducible apply go_bin); rfl; rfl))
             | ((with_reducible (show evOp _ (.call _) _ _ _ _)) ; first | ((with_reducible apply go_len_own); rfl; rfl; rfl) | ((with_reducible apply go_fn_bool); rfl; (exact c18); rfl) | ((with_reducible apply go_fn_bool); rfl; (exact h19); rfl) | ((with_reducible apply go_fn_plain); rfl; (exact h45); rfl; (exact Nat.le_of_ble_eq_true rfl); rfl) | ((with_reducible apply go_fn_plain); rfl; (exact h43); rfl; (exact Nat.le_of_ble_eq_true rfl); rfl) | ((with_reducible apply go_fn_fr2); rfl; (exact h42); (exact scalPart); rfl; rfl) | ((with_reducible apply go_fn_int); rfl; (exact h23); rfl) | ((with_reducible apply go_fn_bool); rfl; (exact h46); rfl))
             | (((with_reducible apply go_not); rfl; rfl))
             | (((with_reducible apply go_extract); rfl; rfl))
             | (((with_reducible apply go_pick); rfl; rfl; rfl))
             | (((with_reducible apply go_bx_agg); rfl; rfl; (exact Nat.le_of_ble_eq_true rfl); rfl; rfl)))
           | ((with_reducible (show evOps _ _ _ _ _ _)); first
             | (with_reducible apply go_nil)
             | ((with_reducible apply go_run); rfl; rfl))
           | ((with_reducible (show evG _ _ _ _ _)); first
             | (with_reducible apply go_seq)
             | (with_reducible apply go_region)
             | ((with_reducible apply go_cond_t); rfl; rfl)
             | ((with_reducible apply go_cond_f); rfl; rfl)
             | (with_reducible apply go_ret)
             | (with_reducible apply go_skipc))
           | (with_reducible apply go_kseq)
           | (with_reducible apply go_kseq_ret)
           | ((with_reducible apply end_bool); rfl)
        all_goals simp
      · have e0 : gpE g p = groundE g := by unfold gpE; rw [if_pos hg]
        rw [e0] at h45 h43 h42
        refine contract_of mix Try.func10 rfl rfl (by rw [Try.ntmps10]; exact Nat.le_of_ble_eq_true rfl) ?_; rw [Try.results10, Try.ntmps10]; simp only [argsE, Nat.reduceAdd]
        repeat' first
           | (with_reducible apply go_op)
           | (with_reducible apply go_next)
           | ((with_reducible (show evOp _ _ _ _ _ _)); first
             | ((with_reducible (show evOp _ (.move _) _ _ _ _)) ; first | ((with_reducible apply go_mv_int); rfl; rfl) | ((with_reducible apply go_mv_bool); rfl; rfl) | ((with_reducible apply go_mv_os); rfl; rfl) | ((with_reducible apply go_mv_tup); rfl; rfl) | ((with_reducible apply go_mv_str); rfl; rfl))
             | ((with_reducible apply go_as))
             | ((with_reducible (show evOp _ (.load _ _) _ _ _ _)) ; first | ((with_reducible apply go_ld_agg); rfl; rfl; rfl; rfl) | ((with_reducible apply go_load_own); rfl; rfl; rfl; rfl))
             | (((with_reducible apply go_index_arr); rfl; rfl; rfl; rfl; omega))
             | ((with_reducible (show evOp _ (.binOp _ _ _ _ _) _ _ _ _)) ; first | ((with_reducible apply go_cmp); rfl; rfl; rfl; rfl) | ((with_reducible apply go_bin); rfl; rfl))
             | ((with_reducible (show evOp _ (.call _) _ _ _ _)) ; first | ((with_reducible apply go_len_own); rfl; rfl; rfl) | ((with_reducible apply go_fn_bool); rfl; (exact c18); rfl) | ((with_reducible apply go_fn_bool); rfl; (exact h19); rfl) | ((with_reducible apply go_fn_plain); rfl; (exact h45); rfl; (exact Nat.le_of_ble_eq_true rfl); rfl) | ((with_reducible apply go_fn_plain); rfl; (exact h43); rfl; (exact Nat.le_of_ble_eq_true rfl); rfl) | ((with_reducible apply go_fn_fr2); rfl; (exact h42); (exact scalPart); rfl; rfl) | ((with_reducible apply go_fn_int); rfl; (exact h23); rfl))
             | (((with_reducible apply go_not); rfl; rfl))
             | (((with_reducible apply go_extract); rfl; rfl))
             | (((with_reducible apply go_pick); rfl; rfl; rfl))
             | (((with_reducible apply go_bx_agg); rfl; rfl; (exact Nat.le_of_ble_eq_true rfl); rfl; rfl)))
           | ((with_reducible (show evOps _ _ _ _ _ _)); first
             | (with_reducible apply go_nil)
             | ((with_reducible apply go_run); rfl; rfl)
             | ((with_reducible apply go_pass); rfl; rfl; rfl)
             | (((with_reducible apply go_guard); rfl) <;> (intro h; simp only [h, Bool.not_true, Bool.not_false]; (try with_reducible (refine ⟨rfl, ?_⟩)); try simp only [decide_eq_true_eq, decide_eq_false_iff_not, Bool.not_eq_true', Bool.not_eq_false', Bool.not_true, Bool.not_false] at h; try exact absurd trivial h)))
           | ((with_reducible (show evG _ _ _ _ _)); first
             | (with_reducible apply go_seq)
             | (with_reducible apply go_region)
             | ((with_reducible apply go_cond_t); rfl; rfl)
             | ((with_reducible apply go_cond_f); rfl; rfl)
             | (((with_reducible apply go_cond); rfl) <;> (intro h; simp only [h]; try simp only [decide_eq_true_eq, decide_eq_false_iff_not, Bool.not_eq_true', Bool.not_eq_false', Bool.not_true, Bool.not_false] at h; try exact absurd trivial h))
             | (with_reducible apply go_ret)
             | (with_reducible apply go_skipc))
           | (with_reducible apply go_kseq)
           | (with_reducible apply go_kseq_ret)
           | ((with_reducible apply end_bool); rfl)
        all_goals first | exact absurd ‹groundE g = 0› hg | simp
end Go.Pv.Soil

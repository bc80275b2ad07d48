import Derived.Test.YtdedpndkohfgbaaProg
import Derived.Test.YtdedpndkohfgbaaQT
import Derived.Test.YtdedpndkohfgbaaQQ
import Derived.Test.YtdedpndkohfgbaaQR
import Derived.KernelRfl
/- Part of the proofs over Ytdedpndkohfgbaa: S63, S64. -/
set_option linter.unusedVariables false
set_option linter.unusedSimpArgs false
set_option linter.unnecessarySimpa false
open Go Go.Proofs Go.Pv
set_option maxHeartbeats 4000000
set_option maxRecDepth 100000
set_option linter.unusedSimpArgs false
set_option linter.unusedVariables false
namespace Go.Pv.Soil
theorem samples_ok {l : List Sample} (h : samplesE l = 0) : l.length ≤ 60 ∧ ∀ i (hi : i < l.length), Geo.ptOK ⟨l[i].x, l[i].y⟩ = true := by
  unfold samplesE at h
  split at h
  · omega
  · rename_i h1
    refine ⟨by omega, fun i hi => ?_⟩
    have h2 := firstE_all h i hi
    rw [stepS_at hi] at h2
    split at h2
    · omega
    · split at h2
      · omega
      · unfold smpE at h2
        split at h2
        · omega
        · rename_i h3
          have h4 : ptOK ⟨l[i].x, l[i].y⟩ = true := by
            by_cases hp : ptOK ⟨l[i].x, l[i].y⟩ = true
            · exact hp
            · exact absurd (fun h => hp h.1) h3
          exact h4
/-- Is a sample in a polygon and between two levels? -/
def selB (q : List Geo.Pt) (a b : Int) (s : Sample) : Bool := (decide (0 ≤ Geo.insE q ⟨s.x, s.y⟩) && decide (s.bottom < a)) && decide (b < s.top)
def selL (l : List Sample) (q : List Geo.Pt) (a b : Int) (i : Nat) : List Sample := (l.take i).filter (selB q a b)
theorem selL_len (l : List Sample) (q : List Geo.Pt) (a b : Int) (i : Nat) : (selL l q a b i).length ≤ i := by
  have h1 := List.length_filter_le (selB q a b) (l.take i)
  have h2 := List.length_take_le i l
  unfold selL; omega
theorem selL_yes {l : List Sample} {q : List Geo.Pt} {a b : Int} {i : Nat} (hi : i < l.length) (h : selB q a b l[i] = true) : selL l q a b i ++ [l[i]] = selL l q a b (i + 1) := by
  unfold selL
  rw [List.take_succ_eq_append_getElem hi, List.filter_append, List.filter_cons_of_pos h, List.filter_nil]
theorem selL_no {l : List Sample} {q : List Geo.Pt} {a b : Int} {i : Nat} (hi : i < l.length) (h : selB q a b l[i] = false) : selL l q a b i = selL l q a b (i + 1) := by
  unfold selL
  rw [List.take_succ_eq_append_getElem hi, List.filter_append, List.filter_cons_of_neg (by simp [h]), List.filter_nil, List.append_nil]
def chosenE (l : List Sample) (q : List Geo.Pt) (a b : Int) : Int := if samplesE l ≠ 0 then samplesE l else if Geo.polyE q ≠ 0 then Geo.polyE q else if ¬ (lvOK a = true ∧ lvOK b = true) then 2 else if a ≤ b then 9 else 0
def chosenR (l : List Sample) (q : List Geo.Pt) (a b : Int) : List Sample × Int := if chosenE l q a b = 0 then (selL l q a b l.length, 0) else ([], chosenE l q a b)
def encChosen (x : List Sample × Int) : D := .tup [.fr 7 (x.1.map encSample), .int .i64 x.2]
theorem chosen_bad {l : List Sample} {q : List Geo.Pt} {a b e : Int} (h : chosenE l q a b = e) (he : e ≠ 0) : chosenR l q a b = ([], e) := by
  unfold chosenR; rw [h, if_neg he]
theorem c64 (l : List Sample) (hl : l.length < 1000000000000) (q : List Geo.Pt) (a b : Int) : Contract Try.prog 64 [.sl (l.map encSample), .sl (q.map Geo.encPt), .int .i64 a, .int .i64 b] (.ret (encChosen (chosenR l q a b))) := by
  have h1 := c112 l hl
  have h2 : Contract Try.prog 113 [.sl (q.map Geo.encPt)] (.ret (.int .i64 (Geo.polyE q))) := Geo.c_CheckPolygon q
  have h3 := c114 a
  have h4 := c114 b
  by_cases hs : samplesE l = 0
  rotate_left
  · rw [chosen_bad (e := samplesE l) (by unfold chosenE; rw [if_pos hs]) hs]
    refine contract_of mix Try.func64 rfl rfl (by rw [Try.ntmps64]; exact Nat.le_of_ble_eq_true rfl) ?_; rw [Try.results64, Try.ntmps64]; simp only [argsE, Nat.reduceAdd]
    repeat' first
           | (with_reducible apply go_op)
           | (with_reducible apply go_next)
           | ((with_reducible (show evOp _ _ _ _ _ _)); first
             | ((with_reducible (show evOp _ (.move _) _ _ _ _)) ; first | ((with_reducible apply go_mv_int); rfl; rfl) | ((with_reducible apply go_mv_sl); rfl; rfl) | ((with_reducible apply go_mv_nilsl); rfl; rfl))
             | ((with_reducible apply go_as))
             | (((with_reducible apply go_cmp); rfl; rfl; rfl; rfl))
             | (((with_reducible apply go_fn_int); rfl; (exact h1); rfl)))
           | ((with_reducible (show evOps _ _ _ _ _ _)); first
             | (with_reducible apply go_nil))
           | ((with_reducible (show evG _ _ _ _ _)); first
             | (with_reducible apply go_seq)
             | (with_reducible apply go_region)
             | (((with_reducible apply go_cond); rfl) <;> (intro h; simp only [h]; try simp only [decide_eq_true_eq, decide_eq_false_iff_not, Bool.not_eq_true', Bool.not_eq_false', Bool.not_true, Bool.not_false] at h; try exact absurd trivial h))
             | (with_reducible apply go_ret)
             | (with_reducible apply go_skipc))
           | (with_reducible apply go_kseq)
           | (with_reducible apply go_kseq_ret)
    all_goals first
      | exact finK_ret (fin_nil2 rfl rfl rfl)
      | (exfalso; omega)
      | trace_state
  by_cases hq : Geo.polyE q = 0
  rotate_left
  · rw [chosen_bad (e := Geo.polyE q) (by unfold chosenE; rw [if_neg (by omega), if_pos hq]) hq]
    rw [hs] at h1
    refine contract_of mix Try.func64 rfl rfl (by rw [Try.ntmps64]; exact Nat.le_of_ble_eq_true rfl) ?_; rw [Try.results64, Try.ntmps64]; simp only [argsE, Nat.reduceAdd]
    repeat' first
           | (with_reducible apply go_op)
           | (with_reducible apply go_next)
           | ((with_reducible (show evOp _ _ _ _ _ _)); first
             | ((with_reducible (show evOp _ (.move _) _ _ _ _)) ; first | ((with_reducible apply go_mv_int); rfl; rfl) | ((with_reducible apply go_mv_sl); rfl; rfl) | ((with_reducible apply go_mv_nilsl); rfl; rfl))
             | ((with_reducible apply go_as))
             | (((with_reducible apply go_cmp); rfl; rfl; rfl; rfl))
             | ((with_reducible (show evOp _ (.call _) _ _ _ _)) ; first | ((with_reducible apply go_fn_int); rfl; (exact h1); rfl) | ((with_reducible apply go_fn_int); rfl; (exact h2); rfl)))
           | ((with_reducible (show evOps _ _ _ _ _ _)); first
             | (with_reducible apply go_nil))
           | ((with_reducible (show evG _ _ _ _ _)); first
             | (with_reducible apply go_seq)
             | (with_reducible apply go_region)
             | ((with_reducible apply go_cond_f); rfl; rfl)
             | (((with_reducible apply go_cond); rfl) <;> (intro h; simp only [h]; try simp only [decide_eq_true_eq, decide_eq_false_iff_not, Bool.not_eq_true', Bool.not_eq_false', Bool.not_true, Bool.not_false] at h; try exact absurd trivial h))
             | (with_reducible apply go_ret)
             | (with_reducible apply go_skipc))
           | (with_reducible apply go_kseq)
           | (with_reducible apply go_kseq_ret)
    all_goals first
      | exact finK_ret (fin_nil2 rfl rfl rfl)
      | (exfalso; omega)
      | trace_state
  rw [hs] at h1
  rw [hq] at h2
  cases ha : lvOK a
  · rw [ha] at h3
    rw [chosen_bad (e := 2) (by unfold chosenE; rw [if_neg (by omega), if_neg (by omega), if_pos (by simp [ha])]) (by decide)]
    refine contract_of mix Try.func64 rfl rfl (by rw [Try.ntmps64]; exact Nat.le_of_ble_eq_true rfl) ?_; rw [Try.results64, Try.ntmps64]; simp only [argsE, Nat.reduceAdd]
    repeat' first
           | (with_reducible apply go_op)
           | (with_reducible apply go_next)
           | ((with_reducible (show evOp _ _ _ _ _ _)); first
             | ((with_reducible (show evOp _ (.move _) _ _ _ _)) ; first | ((with_reducible apply go_mv_int); rfl; rfl) | ((with_reducible apply go_mv_bool); rfl; rfl) | ((with_reducible apply go_mv_sl); rfl; rfl) | ((with_reducible apply go_mv_nilsl); rfl; rfl))
             | ((with_reducible apply go_as))
             | (((with_reducible apply go_cmp); rfl; rfl; rfl; rfl))
             | ((with_reducible (show evOp _ (.call _) _ _ _ _)) ; first | ((with_reducible apply go_fn_int); rfl; (exact h1); rfl) | ((with_reducible apply go_fn_int); rfl; (exact h2); rfl) | ((with_reducible apply go_fn_bool); rfl; (exact h3); rfl))
             | (((with_reducible apply go_not); rfl; rfl))
             | (((with_reducible apply go_pick); rfl; rfl; rfl)))
           | ((with_reducible (show evOps _ _ _ _ _ _)); first
             | (with_reducible apply go_nil)
             | ((with_reducible apply go_pass); rfl; rfl; rfl))
           | ((with_reducible (show evG _ _ _ _ _)); first
             | (with_reducible apply go_seq)
             | (with_reducible apply go_region)
             | ((with_reducible apply go_cond_t); rfl; rfl)
             | ((with_reducible apply go_cond_f); rfl; rfl)
             | (with_reducible apply go_ret)
             | (with_reducible apply go_skipc))
           | (with_reducible apply go_kseq)
           | (with_reducible apply go_kseq_ret)
    all_goals first
      | exact finK_ret (fin_nil2 rfl rfl rfl)
      | (exfalso; omega)
      | trace_state
  cases hb : lvOK b
  · rw [ha] at h3
    rw [hb] at h4
    rw [chosen_bad (e := 2) (by unfold chosenE; rw [if_neg (by omega), if_neg (by omega), if_pos (by simp [hb])]) (by decide)]
    refine contract_of mix Try.func64 rfl rfl (by rw [Try.ntmps64]; exact Nat.le_of_ble_eq_true rfl) ?_; rw [Try.results64, Try.ntmps64]; simp only [argsE, Nat.reduceAdd]
    repeat' first
           | (with_reducible apply go_op)
           | (with_reducible apply go_next)
           | ((with_reducible (show evOp _ _ _ _ _ _)); first
             | ((with_reducible (show evOp _ (.move _) _ _ _ _)) ; first | ((with_reducible apply go_mv_int); rfl; rfl) | ((with_reducible apply go_mv_bool); rfl; rfl) | ((with_reducible apply go_mv_sl); rfl; rfl) | ((with_reducible apply go_mv_nilsl); rfl; rfl))
             | ((with_reducible apply go_as))
             | (((with_reducible apply go_cmp); rfl; rfl; rfl; rfl))
             | ((with_reducible (show evOp _ (.call _) _ _ _ _)) ; first | ((with_reducible apply go_fn_int); rfl; (exact h1); rfl) | ((with_reducible apply go_fn_int); rfl; (exact h2); rfl) | ((with_reducible apply go_fn_bool); rfl; (exact h3); rfl) | ((with_reducible apply go_fn_bool); rfl; (exact h4); rfl))
             | (((with_reducible apply go_not); rfl; rfl))
             | (((with_reducible apply go_pick); rfl; rfl; rfl)))
           | ((with_reducible (show evOps _ _ _ _ _ _)); first
             | (with_reducible apply go_nil)
             | ((with_reducible apply go_run); rfl; rfl))
           | ((with_reducible (show evG _ _ _ _ _)); first
             | (with_reducible apply go_seq)
             | (with_reducible apply go_region)
             | ((with_reducible apply go_cond_t); rfl; rfl)
             | ((with_reducible apply go_cond_f); rfl; rfl)
             | (with_reducible apply go_ret)
             | (with_reducible apply go_skipc))
           | (with_reducible apply go_kseq)
           | (with_reducible apply go_kseq_ret)
    all_goals first
      | exact finK_ret (fin_nil2 rfl rfl rfl)
      | (exfalso; omega)
      | trace_state
  rw [ha] at h3
  rw [hb] at h4
  by_cases hab : a ≤ b
  · rw [chosen_bad (e := 9) (by unfold chosenE; rw [if_neg (by omega), if_neg (by omega), if_neg (by simp [ha, hb]), if_pos hab]) (by decide)]
    refine contract_of mix Try.func64 rfl rfl (by rw [Try.ntmps64]; exact Nat.le_of_ble_eq_true rfl) ?_; rw [Try.results64, Try.ntmps64]; simp only [argsE, Nat.reduceAdd]
    repeat' first
           | (with_reducible apply go_op)
           | (with_reducible apply go_next)
           | ((with_reducible (show evOp _ _ _ _ _ _)); first
             | ((with_reducible (show evOp _ (.move _) _ _ _ _)) ; first | ((with_reducible apply go_mv_int); rfl; rfl) | ((with_reducible apply go_mv_bool); rfl; rfl) | ((with_reducible apply go_mv_sl); rfl; rfl) | ((with_reducible apply go_mv_nilsl); rfl; rfl))
             | ((with_reducible apply go_as))
             | (((with_reducible apply go_cmp); rfl; rfl; rfl; rfl))
             | ((with_reducible (show evOp _ (.call _) _ _ _ _)) ; first | ((with_reducible apply go_len); rfl; rfl) | ((with_reducible apply go_fn_int); rfl; (exact h1); rfl) | ((with_reducible apply go_fn_int); rfl; (exact h2); rfl) | ((with_reducible apply go_fn_bool); rfl; (exact h3); rfl) | ((with_reducible apply go_fn_bool); rfl; (exact h4); rfl))
             | (((with_reducible apply go_not); rfl; rfl))
             | (((with_reducible apply go_pick); rfl; rfl; rfl)))
           | ((with_reducible (show evOps _ _ _ _ _ _)); first
             | (with_reducible apply go_nil)
             | ((with_reducible apply go_run); rfl; rfl))
           | ((with_reducible (show evG _ _ _ _ _)); first
             | (with_reducible apply go_seq)
             | (with_reducible apply go_region)
             | ((with_reducible apply go_cond_f); rfl; rfl)
             | (((with_reducible apply go_cond); rfl) <;> (intro h; simp only [h]; try simp only [decide_eq_true_eq, decide_eq_false_iff_not, Bool.not_eq_true', Bool.not_eq_false', Bool.not_true, Bool.not_false] at h; try exact absurd trivial h))
             | (with_reducible apply go_ret)
             | (with_reducible apply go_skipc)
             | (with_reducible apply go_block))
           | (with_reducible apply go_kseq)
           | (with_reducible apply go_kseq_ret)
    all_goals first
      | exact finK_ret (fin_nil2 rfl rfl rfl)
      | (exfalso; omega)
      | trace_state
  have he : chosenE l q a b = 0 := by unfold chosenE; rw [if_neg (by omega), if_neg (by omega), if_neg (by simp [ha, hb]), if_neg hab]
  rw [show chosenR l q a b = (selL l q a b l.length, 0) from if_pos he]
  obtain ⟨h60, hpt⟩ := samples_ok hs
  refine contract_of mix Try.func64 rfl rfl (by rw [Try.ntmps64]; exact Nat.le_of_ble_eq_true rfl) ?_; rw [Try.results64, Try.ntmps64]; simp only [argsE, Nat.reduceAdd]
  repeat' first
           | (with_reducible apply go_op)
           | (with_reducible apply go_next)
           | ((with_reducible (show evOp _ _ _ _ _ _)); first
             | ((with_reducible (show evOp _ (.move _) _ _ _ _)) ; first | ((with_reducible apply go_mv_int); rfl; rfl) | ((with_reducible apply go_mv_bool); rfl; rfl) | ((with_reducible apply go_mv_sl); rfl; rfl) | ((with_reducible apply go_mv_nilsl); rfl; rfl))
             | ((with_reducible apply go_as))
             | (((with_reducible apply go_cmp); rfl; rfl; rfl; rfl))
             | ((with_reducible (show evOp _ (.call _) _ _ _ _)) ; first | ((with_reducible apply go_len); rfl; rfl) | ((with_reducible apply go_fn_int); rfl; (exact h1); rfl) | ((with_reducible apply go_fn_int); rfl; (exact h2); rfl) | ((with_reducible apply go_fn_bool); rfl; (exact h3); rfl) | ((with_reducible apply go_fn_bool); rfl; (exact h4); rfl))
             | (((with_reducible apply go_not); rfl; rfl))
             | (((with_reducible apply go_pick); rfl; rfl; rfl)))
           | ((with_reducible (show evOps _ _ _ _ _ _)); first
             | (with_reducible apply go_nil)
             | ((with_reducible apply go_run); rfl; rfl))
           | ((with_reducible (show evG _ _ _ _ _)); first
             | (with_reducible apply go_seq)
             | (with_reducible apply go_region)
             | ((with_reducible apply go_cond_f); rfl; rfl)
             | (((with_reducible apply go_cond); rfl) <;> (intro h; simp only [h]; try simp only [decide_eq_true_eq, decide_eq_false_iff_not, Bool.not_eq_true', Bool.not_eq_false', Bool.not_true, Bool.not_false] at h; try exact absurd trivial h))
             | (with_reducible apply go_ret)
             | (with_reducible apply go_skipc)
             | (with_reducible apply go_block))
           | (with_reducible apply go_kseq)
           | (with_reducible apply go_kseq_ret)
  all_goals try (exfalso; omega)
  refine go_count l.length (fun i => ⟨[(12, .os 1 0 (selL l q a b i).length), (40, .int .i64 i), (38, .sl (l.map encSample)), (39, .int .i64 l.length), (1, .sl (q.map Geo.encPt)), (2, .int .i64 a), (3, .int .i64 b)], [(1, ⟨7, true, (selL l q a b i).map encSample⟩)], 32, 74⟩) (fun i => True) (entails_eq (nx := 32) (k := 7) (ns := [(12, 1)]) (ks := [40, 38, 39, 1, 2, 3]) [] rfl (by simp; rfl) rfl) trivial ?_
  intro i hi hC
  by_cases hlt : i < l.length
  · have hx := Geo.c_Inside q ⟨l[i].x, l[i].y⟩
    rw [show Geo.insX q ⟨l[i].x, l[i].y⟩ = (Geo.insE q ⟨l[i].x, l[i].y⟩, 0) by unfold Geo.insX; rw [if_neg (by omega), if_neg (by rw [hpt i hlt]; simp)]] at hx
    have hx' : Contract Try.prog 115 [.sl (q.map Geo.encPt), .agg [.int .i64 l[i].x, .int .i64 l[i].y]] (.ret (.tup [.int .i64 (Geo.insE q ⟨l[i].x, l[i].y⟩), .int .i64 0])) := hx
    have hlen := selL_len l q a b i
    repeat' first
           | (with_reducible apply go_op)
           | (with_reducible apply go_next)
           | ((with_reducible (show evOp _ _ _ _ _ _)); first
             | ((with_reducible (show evOp _ (.move _) _ _ _ _)) ; first | ((with_reducible apply go_mv_int); rfl; rfl) | ((with_reducible apply go_mv_bool); rfl; rfl) | ((with_reducible apply go_mv_sl); rfl; rfl) | ((with_reducible apply go_mv_os); rfl; rfl) | ((with_reducible apply go_mv_tup); rfl; rfl))
             | ((with_reducible apply go_as))
             | ((with_reducible (show evOp _ (.load _ _) _ _ _ _)) ; first | ((with_reducible apply go_ld_ptr); rfl; rfl; rfl) | ((with_reducible apply go_ld_agg); rfl; rfl; rfl; rfl) | ((with_reducible apply go_load_own); rfl; rfl; rfl; rfl))
             | (((with_reducible apply go_fieldAddr_own); rfl; rfl; rfl))
             | (((with_reducible apply go_index_nat); rfl; rfl; (with_reducible rfl); (intro; rfl); rfl; omega; (intro hlt)))
             | ((with_reducible (show evOp _ (.binOp _ _ _ _ _) _ _ _ _)) ; first | ((with_reducible apply go_cmp); rfl; rfl; rfl; rfl) | ((with_reducible apply go_add); rfl; rfl; rfl; omega))
             | (((with_reducible apply go_fn_plain); rfl; (exact hx'); rfl; (exact Nat.le_of_ble_eq_true rfl); rfl))
             | (((with_reducible apply go_st_agg); rfl; rfl; rfl; rfl; rfl; rfl; rfl))
             | (((with_reducible apply go_extract); rfl; rfl))
             | (((with_reducible apply go_pick); rfl; rfl; rfl))
             | (((with_reducible apply go_bd2_int); rfl; rfl; rfl; rfl))
             | (((with_reducible apply go_alloc); rfl; rfl; rfl))
             | (((with_reducible apply go_bs1_agg); rfl; rfl; rfl; rfl; rfl; rfl)))
           | ((with_reducible (show evOps _ _ _ _ _ _)); first
             | (with_reducible apply go_nil)
             | ((with_reducible apply go_run); rfl; rfl)
             | ((with_reducible apply go_pass); rfl; rfl; rfl)
             | (((with_reducible apply go_guard); rfl) <;> (intro h; simp only [h, Bool.not_true, Bool.not_false]; (try with_reducible (refine ⟨rfl, ?_⟩)); try simp only [decide_eq_true_eq, decide_eq_false_iff_not, Bool.not_eq_true', Bool.not_eq_false', Bool.not_true, Bool.not_false] at h; try exact absurd trivial h)))
           | ((with_reducible (show evG _ _ _ _ _)); first
             | (with_reducible apply go_seq)
             | (with_reducible apply go_region)
             | ((with_reducible apply go_cond_f); rfl; rfl)
             | (((with_reducible apply go_cond); rfl) <;> (intro h; simp only [h]; try simp only [decide_eq_true_eq, decide_eq_false_iff_not, Bool.not_eq_true', Bool.not_eq_false', Bool.not_true, Bool.not_false] at h; try exact absurd trivial h))
             | (with_reducible apply go_ret)
             | (with_reducible apply go_skipc)
             | (with_reducible apply go_block)
             | (with_reducible apply go_exit))
           | (with_reducible apply go_kseq)
           | (with_reducible apply go_kblock)
           | (with_reducible apply go_kblock_exit)
           | (with_reducible apply go_kseq_exit)
    all_goals try first
      | (exfalso; omega)
      | (refine go_app_map (f := encSample) (a := l[i]) (l := selL l q a b i) scalSample rfl rfl rfl rfl rfl rfl (by kernel_rfl) (by kernel_rfl) (by omega) rfl ?_)
    repeat' first
           | (with_reducible apply go_op)
           | (with_reducible apply go_next)
           | ((with_reducible (show evOp _ _ _ _ _ _)); first
             | ((with_reducible (show evOp _ (.move _) _ _ _ _)) ; first | ((with_reducible apply go_mv_int); rfl; rfl) | ((with_reducible apply go_mv_os); rfl; rfl))
             | ((with_reducible apply go_as))
             | (((with_reducible apply go_add); rfl; rfl; rfl; omega)))
           | ((with_reducible (show evOps _ _ _ _ _ _)); first
             | (with_reducible apply go_nil))
           | ((with_reducible (show evG _ _ _ _ _)); first
             | (with_reducible apply go_region))
           | (with_reducible apply go_kseq)
           | (with_reducible apply go_kblock)
    all_goals first
      | (have hsel : selB q a b l[i] = true := by
           simp only [selB, Bool.and_eq_true, decide_eq_true_eq]; omega
         have e := selL_yes hlt hsel
         have el : (selL l q a b i).length + 1 = (selL l q a b (i + 1)).length := by rw [← e]; simp
         refine ⟨hlt, trivial, ?_⟩
         rw [e, el]
         exact entails_eq (nx := 32) (k := 7) (ns := []) (ks := [12, 40, 38, 39, 1, 2, 3]) [(1, 1)] rfl (by simp) rfl)
      | (have hsel : selB q a b l[i] = false := by
           simp only [selB, Bool.and_eq_false_iff, decide_eq_false_iff_not]; omega
         refine ⟨hlt, trivial, ?_⟩
         rw [← selL_no hlt hsel]
         exact entails_eq (nx := 32) (k := 7) (ns := []) (ks := [12, 40, 38, 39, 1, 2, 3]) [(1, 1)] rfl (by simp) rfl)
      | trace_state
  · have e : i = l.length := by omega
    subst e
    repeat' first
           | (with_reducible apply go_op)
           | (with_reducible apply go_next)
           | ((with_reducible (show evOp _ _ _ _ _ _)); first
             | ((with_reducible (show evOp _ (.move _) _ _ _ _)) ; first | ((with_reducible apply go_mv_int); rfl; rfl) | ((with_reducible apply go_mv_sl); rfl; rfl) | ((with_reducible apply go_mv_os); rfl; rfl))
             | ((with_reducible apply go_as))
             | ((with_reducible (show evOp _ (.load _ _) _ _ _ _)) ; first | ((with_reducible apply go_ld_ptr); rfl; rfl; rfl) | ((with_reducible apply go_load_own); rfl; rfl; rfl; rfl))
             | (((with_reducible apply go_fieldAddr_own); rfl; rfl; rfl))
             | (((with_reducible apply go_index_nat); rfl; rfl; (with_reducible rfl); (intro; rfl); rfl; omega; (intro hlt)))
             | (((with_reducible apply go_cmp); rfl; rfl; rfl; rfl))
             | (((with_reducible apply go_st_agg); rfl; rfl; rfl; rfl; rfl; rfl; rfl))
             | (((with_reducible apply go_bd2_int); rfl; rfl; rfl; rfl))
             | (((with_reducible apply go_alloc); rfl; rfl; rfl)))
           | ((with_reducible (show evOps _ _ _ _ _ _)); first
             | (with_reducible apply go_nil))
           | ((with_reducible (show evG _ _ _ _ _)); first
             | (with_reducible apply go_seq)
             | (with_reducible apply go_region)
             | (((with_reducible apply go_cond); rfl) <;> (intro h; simp only [h]; try simp only [decide_eq_true_eq, decide_eq_false_iff_not, Bool.not_eq_true', Bool.not_eq_false', Bool.not_true, Bool.not_false] at h; try exact absurd trivial h))
             | (with_reducible apply go_ret)
             | (with_reducible apply go_skipc)
             | (with_reducible apply go_block)
             | (with_reducible apply go_exit))
           | (with_reducible apply go_kseq)
           | (with_reducible apply go_kblock_exit)
           | (with_reducible apply go_kseq_exit)
    all_goals first
      | (exfalso; omega)
      | exact finK_ret (fin_fr2 rfl (by simp) rfl rfl rfl)
      | trace_state
end Go.Pv.Soil

open Go Go.Proofs Go.Pv
set_option maxHeartbeats 4000000
set_option maxRecDepth 100000
set_option linter.unusedSimpArgs false
set_option linter.unusedVariables false
namespace Go.Pv.Soil
theorem c65 (l : List Sample) (hl : l.length < 1000000000000) (q : List Geo.Pt) (a b : Int) : Contract Try.prog 65 [.sl (l.map encSample), .sl (q.map Geo.encPt), .int .i64 a, .int .i64 b] (.ret (encChosen (chosenR l q a b))) := by
  have h1 := c116 l hl
  have h2 : Contract Try.prog 117 [.sl (q.map Geo.encPt)] (.ret (.int .i64 (Geo.polyE q))) := Geo.c_rCheckPolygon q
  have h3 := c48 a
  have h4 := c48 b
  by_cases hs : samplesE l = 0
  rotate_left
  · rw [chosen_bad (e := samplesE l) (by unfold chosenE; rw [if_pos hs]) hs]
    refine contract_of mix Try.func65 rfl rfl (by rw [Try.ntmps65]; exact Nat.le_of_ble_eq_true rfl) ?_; rw [Try.results65, Try.ntmps65]; simp only [argsE, Nat.reduceAdd]
    repeat' first
           | (with_reducible apply go_op)
           | (with_reducible apply go_next)
           | ((with_reducible (show evOp _ _ _ _ _ _)); first
             | ((with_reducible (show evOp _ (.move _) _ _ _ _)) ; first | ((with_reducible apply go_mv_int); rfl; rfl) | ((with_reducible apply go_mv_sl); rfl; rfl) | ((with_reducible apply go_mv_nilsl); rfl; rfl))
             | ((with_reducible apply go_as))
             | (((with_reducible apply go_cmp); rfl; rfl; rfl; rfl))
             | (((with_reducible apply go_fn_int); rfl; (exact h1); rfl)))
           | ((with_reducible (show evOps _ _ _ _ _ _)); first
             | (with_reducible apply go_nil))
           | ((with_reducible (show evG _ _ _ _ _)); first
             | (with_reducible apply go_seq)
             | (with_reducible apply go_region)
             | (((with_reducible apply go_cond); rfl) <;> (intro h; simp only [h]; try simp only [decide_eq_true_eq, decide_eq_false_iff_not, Bool.not_eq_true', Bool.not_eq_false', Bool.not_true, Bool.not_false] at h; try exact absurd trivial h))
             | (with_reducible apply go_ret)
             | (with_reducible apply go_skipc))
           | (with_reducible apply go_kseq)
           | (with_reducible apply go_kseq_ret)
    all_goals first
      | exact finK_ret (fin_nil2 rfl rfl rfl)
      | (exfalso; omega)
      | trace_state
  by_cases hq : Geo.polyE q = 0
  rotate_left
  · rw [chosen_bad (e := Geo.polyE q) (by unfold chosenE; rw [if_neg (by omega), if_pos hq]) hq]
    rw [hs] at h1
    refine contract_of mix Try.func65 rfl rfl (by rw [Try.ntmps65]; exact Nat.le_of_ble_eq_true rfl) ?_; rw [Try.results65, Try.ntmps65]; simp only [argsE, Nat.reduceAdd]
    repeat' first
           | (with_reducible apply go_op)
           | (with_reducible apply go_next)
           | ((with_reducible (show evOp _ _ _ _ _ _)); first
             | ((with_reducible (show evOp _ (.move _) _ _ _ _)) ; first | ((with_reducible apply go_mv_int); rfl; rfl) | ((with_reducible apply go_mv_sl); rfl; rfl) | ((with_reducible apply go_mv_nilsl); rfl; rfl))
             | ((with_reducible apply go_as))
             | (((with_reducible apply go_cmp); rfl; rfl; rfl; rfl))
             | ((with_reducible (show evOp _ (.call _) _ _ _ _)) ; first | ((with_reducible apply go_fn_int); rfl; (exact h1); rfl) | ((with_reducible apply go_fn_int); rfl; (exact h2); rfl)))
           | ((with_reducible (show evOps _ _ _ _ _ _)); first
             | (with_reducible apply go_nil))
           | ((with_reducible (show evG _ _ _ _ _)); first
             | (with_reducible apply go_seq)
             | (with_reducible apply go_region)
             | ((with_reducible apply go_cond_f); rfl; rfl)
             | (((with_reducible apply go_cond); rfl) <;> (intro h; simp only [h]; try simp only [decide_eq_true_eq, decide_eq_false_iff_not, Bool.not_eq_true', Bool.not_eq_false', Bool.not_true, Bool.not_false] at h; try exact absurd trivial h))
             | (with_reducible apply go_ret)
             | (with_reducible apply go_skipc))
           | (with_reducible apply go_kseq)
           | (with_reducible apply go_kseq_ret)
    all_goals first
      | exact finK_ret (fin_nil2 rfl rfl rfl)
      | (exfalso; omega)
      | trace_state
  rw [hs] at h1
  rw [hq] at h2
  cases ha : lvOK a
  · rw [ha] at h3
    rw [chosen_bad (e := 2) (by unfold chosenE; rw [if_neg (by omega), if_neg (by omega), if_pos (by simp [ha])]) (by decide)]
    refine contract_of mix Try.func65 rfl rfl (by rw [Try.ntmps65]; exact Nat.le_of_ble_eq_true rfl) ?_; rw [Try.results65, Try.ntmps65]; simp only [argsE, Nat.reduceAdd]
    repeat' first
           | (with_reducible apply go_op)
           | (with_reducible apply go_next)
           | ((with_reducible (show evOp _ _ _ _ _ _)); first
             | ((with_reducible (show evOp _ (.move _) _ _ _ _)) ; first | ((with_reducible apply go_mv_int); rfl; rfl) | ((with_reducible apply go_mv_bool); rfl; rfl) | ((with_reducible apply go_mv_sl); rfl; rfl) | ((with_reducible apply go_mv_nilsl); rfl; rfl))
             | ((with_reducible apply go_as))
             | (((with_reducible apply go_cmp); rfl; rfl; rfl; rfl))
             | ((with_reducible (show evOp _ (.call _) _ _ _ _)) ; first | ((with_reducible apply go_fn_int); rfl; (exact h1); rfl) | ((with_reducible apply go_fn_int); rfl; (exact h2); rfl) | ((with_reducible apply go_fn_bool); rfl; (exact h3); rfl))
             | (((with_reducible apply go_not); rfl; rfl))
             | (((with_reducible apply go_pick); rfl; rfl; rfl)))
           | ((with_reducible (show evOps _ _ _ _ _ _)); first
             | (with_reducible apply go_nil)
             | ((with_reducible apply go_pass); rfl; rfl; rfl))
           | ((with_reducible (show evG _ _ _ _ _)); first
             | (with_reducible apply go_seq)
             | (with_reducible apply go_region)
             | ((with_reducible apply go_cond_t); rfl; rfl)
             | ((with_reducible apply go_cond_f); rfl; rfl)
             | (with_reducible apply go_ret)
             | (with_reducible apply go_skipc))
           | (with_reducible apply go_kseq)
           | (with_reducible apply go_kseq_ret)
    all_goals first
      | exact finK_ret (fin_nil2 rfl rfl rfl)
      | (exfalso; omega)
      | trace_state
  cases hb : lvOK b
  · rw [ha] at h3
    rw [hb] at h4
    rw [chosen_bad (e := 2) (by unfold chosenE; rw [if_neg (by omega), if_neg (by omega), if_pos (by simp [hb])]) (by decide)]
    refine contract_of mix Try.func65 rfl rfl (by rw [Try.ntmps65]; exact Nat.le_of_ble_eq_true rfl) ?_; rw [Try.results65, Try.ntmps65]; simp only [argsE, Nat.reduceAdd]
    repeat' first
           | (with_reducible apply go_op)
           | (with_reducible apply go_next)
           | ((with_reducible (show evOp _ _ _ _ _ _)); first
             | ((with_reducible (show evOp _ (.move _) _ _ _ _)) ; first | ((with_reducible apply go_mv_int); rfl; rfl) | ((with_reducible apply go_mv_bool); rfl; rfl) | ((with_reducible apply go_mv_sl); rfl; rfl) | ((with_reducible apply go_mv_nilsl); rfl; rfl))
             | ((with_reducible apply go_as))
             | (((with_reducible apply go_cmp); rfl; rfl; rfl; rfl))
             | ((with_reducible (show evOp _ (.call _) _ _ _ _)) ; first | ((with_reducible apply go_fn_int); rfl; (exact h1); rfl) | ((with_reducible apply go_fn_int); rfl; (exact h2); rfl) | ((with_reducible apply go_fn_bool); rfl; (exact h3); rfl) | ((with_reducible apply go_fn_bool); rfl; (exact h4); rfl))
             | (((with_reducible apply go_not); rfl; rfl))
             | (((with_reducible apply go_pick); rfl; rfl; rfl)))
           | ((with_reducible (show evOps _ _ _ _ _ _)); first
             | (with_reducible apply go_nil)
             | ((with_reducible apply go_run); rfl; rfl))
           | ((with_reducible (show evG _ _ _ _ _)); first
             | (with_reducible apply go_seq)
             | (with_reducible apply go_region)
             | ((with_reducible apply go_cond_t); rfl; rfl)
             | ((with_reducible apply go_cond_f); rfl; rfl)
             | (with_reducible apply go_ret)
             | (with_reducible apply go_skipc))
           | (with_reducible apply go_kseq)
           | (with_reducible apply go_kseq_ret)
    all_goals first
      | exact finK_ret (fin_nil2 rfl rfl rfl)
      | (exfalso; omega)
      | trace_state
  rw [ha] at h3
  rw [hb] at h4
  by_cases hab : a ≤ b
  · rw [chosen_bad (e := 9) (by unfold chosenE; rw [if_neg (by omega), if_neg (by omega), if_neg (by simp [ha, hb]), if_pos hab]) (by decide)]
    refine contract_of mix Try.func65 rfl rfl (by rw [Try.ntmps65]; exact Nat.le_of_ble_eq_true rfl) ?_; rw [Try.results65, Try.ntmps65]; simp only [argsE, Nat.reduceAdd]
    repeat' first
           | (with_reducible apply go_op)
           | (with_reducible apply go_next)
           | ((with_reducible (show evOp _ _ _ _ _ _)); first
             | ((with_reducible (show evOp _ (.move _) _ _ _ _)) ; first | ((with_reducible apply go_mv_int); rfl; rfl) | ((with_reducible apply go_mv_bool); rfl; rfl) | ((with_reducible apply go_mv_sl); rfl; rfl) | ((with_reducible apply go_mv_nilsl); rfl; rfl))
             | ((with_reducible apply go_as))
             | (((with_reducible apply go_cmp); rfl; rfl; rfl; rfl))
             | ((with_reducible (show evOp _ (.call _) _ _ _ _)) ; first | ((with_reducible apply go_fn_int); rfl; (exact h1); rfl) | ((with_reducible apply go_fn_int); rfl; (exact h2); rfl) | ((with_reducible apply go_fn_bool); rfl; (exact h3); rfl) | ((with_reducible apply go_fn_bool); rfl; (exact h4); rfl))
             | (((with_reducible apply go_not); rfl; rfl))
             | (((with_reducible apply go_pick); rfl; rfl; rfl)))
           | ((with_reducible (show evOps _ _ _ _ _ _)); first
             | (with_reducible apply go_nil)
             | ((with_reducible apply go_run); rfl; rfl))
           | ((with_reducible (show evG _ _ _ _ _)); first
             | (with_reducible apply go_seq)
             | (with_reducible apply go_region)
             | ((with_reducible apply go_cond_f); rfl; rfl)
             | (((with_reducible apply go_cond); rfl) <;> (intro h; simp only [h]; try simp only [decide_eq_true_eq, decide_eq_false_iff_not, Bool.not_eq_true', Bool.not_eq_false', Bool.not_true, Bool.not_false] at h; try exact absurd trivial h))
             | (with_reducible apply go_ret)
             | (with_reducible apply go_skipc)
             | (with_reducible apply go_block))
           | (with_reducible apply go_kseq)
           | (with_reducible apply go_kseq_ret)
    all_goals first
      | exact finK_ret (fin_nil2 rfl rfl rfl)
      | (exfalso; omega)
      | trace_state
  have he : chosenE l q a b = 0 := by unfold chosenE; rw [if_neg (by omega), if_neg (by omega), if_neg (by simp [ha, hb]), if_neg hab]
  rw [show chosenR l q a b = (selL l q a b l.length, 0) from if_pos he]
  obtain ⟨h60, hpt⟩ := samples_ok hs
  refine contract_of mix Try.func65 rfl rfl (by rw [Try.ntmps65]; exact Nat.le_of_ble_eq_true rfl) ?_; rw [Try.results65, Try.ntmps65]; simp only [argsE, Nat.reduceAdd]
  repeat' first
           | (with_reducible apply go_op)
           | (with_reducible apply go_next)
           | ((with_reducible (show evOp _ _ _ _ _ _)); first
             | ((with_reducible (show evOp _ (.move _) _ _ _ _)) ; first | ((with_reducible apply go_mv_int); rfl; rfl) | ((with_reducible apply go_mv_bool); rfl; rfl) | ((with_reducible apply go_mv_sl); rfl; rfl) | ((with_reducible apply go_mv_nilsl); rfl; rfl))
             | ((with_reducible apply go_as))
             | (((with_reducible apply go_cmp); rfl; rfl; rfl; rfl))
             | ((with_reducible (show evOp _ (.call _) _ _ _ _)) ; first | ((with_reducible apply go_fn_int); rfl; (exact h1); rfl) | ((with_reducible apply go_fn_int); rfl; (exact h2); rfl) | ((with_reducible apply go_fn_bool); rfl; (exact h3); rfl) | ((with_reducible apply go_fn_bool); rfl; (exact h4); rfl))
             | (((with_reducible apply go_not); rfl; rfl))
             | (((with_reducible apply go_pick); rfl; rfl; rfl)))
           | ((with_reducible (show evOps _ _ _ _ _ _)); first
             | (with_reducible apply go_nil)
             | ((with_reducible apply go_run); rfl; rfl))
           | ((with_reducible (show evG _ _ _ _ _)); first
             | (with_reducible apply go_seq)
             | (with_reducible apply go_region)
             | ((with_reducible apply go_cond_f); rfl; rfl)
             | (((with_reducible apply go_cond); rfl) <;> (intro h; simp only [h]; try simp only [decide_eq_true_eq, decide_eq_false_iff_not, Bool.not_eq_true', Bool.not_eq_false', Bool.not_true, Bool.not_false] at h; try exact absurd trivial h))
             | (with_reducible apply go_ret)
             | (with_reducible apply go_skipc)
             | (with_reducible apply go_block))
           | (with_reducible apply go_kseq)
           | (with_reducible apply go_kseq_ret)
  all_goals try (exfalso; omega)
  refine go_count l.length (fun i => ⟨[(12, .os 1 0 (selL l q a b i).length), (13, .int .i64 i), (0, .sl (l.map encSample)), (1, .sl (q.map Geo.encPt)), (2, .int .i64 a), (3, .int .i64 b)], [(1, ⟨7, true, (selL l q a b i).map encSample⟩)], 32, 81⟩) (fun i => True) (entails_eq (nx := 32) (k := 7) (ns := [(12, 1)]) (ks := [13, 0, 1, 2, 3]) [] rfl (by simp; rfl) rfl) trivial ?_
  intro i hi hC
  obtain ⟨⟨g3, g40⟩, gok, -⟩ := Geo.poly_ok hq
  by_cases hlt : i < l.length
  · have hx' : Contract Try.prog 118 [.sl (q.map Geo.encPt), .agg [.int .i64 l[i].x, .int .i64 l[i].y]] (.ret (.int .i64 (Geo.insE q ⟨l[i].x, l[i].y⟩))) := Geo.c_rInside q (by omega) (by omega) gok ⟨l[i].x, l[i].y⟩ (hpt i hlt)
    have hlen := selL_len l q a b i
    repeat' first
           | (with_reducible apply go_op)
           | (with_reducible apply go_next)
           | ((with_reducible (show evOp _ _ _ _ _ _)); first
             | ((with_reducible (show evOp _ (.move _) _ _ _ _)) ; first | ((with_reducible apply go_mv_int); rfl; rfl) | ((with_reducible apply go_mv_bool); rfl; rfl) | ((with_reducible apply go_mv_sl); rfl; rfl) | ((with_reducible apply go_mv_os); rfl; rfl))
             | ((with_reducible apply go_as))
             | ((with_reducible (show evOp _ (.load _ _) _ _ _ _)) ; first | ((with_reducible apply go_ld_ptr); rfl; rfl; rfl) | ((with_reducible apply go_load); rfl; rfl; rfl))
             | (((with_reducible apply go_fieldAddr); rfl; rfl))
             | (((with_reducible apply go_index_nat); rfl; rfl; (with_reducible rfl); (intro; rfl); rfl; omega; (intro hlt)))
             | ((with_reducible (show evOp _ (.binOp _ _ _ _ _) _ _ _ _)) ; first | ((with_reducible apply go_cmp); rfl; rfl; rfl; rfl) | ((with_reducible apply go_add); rfl; rfl; rfl; omega))
             | ((with_reducible (show evOp _ (.call _) _ _ _ _)) ; first | ((with_reducible apply go_len); rfl; rfl) | ((with_reducible apply go_fn_int); rfl; (exact hx'); rfl))
             | (((with_reducible apply go_pick); rfl; rfl; rfl))
             | (((with_reducible apply go_bd2_int); rfl; rfl; rfl; rfl))
             | (((with_reducible apply go_bs1_agg); rfl; rfl; rfl; rfl; rfl; rfl)))
           | ((with_reducible (show evOps _ _ _ _ _ _)); first
             | (with_reducible apply go_nil)
             | ((with_reducible apply go_run); rfl; rfl)
             | ((with_reducible apply go_pass); rfl; rfl; rfl)
             | (((with_reducible apply go_guard); rfl) <;> (intro h; simp only [h, Bool.not_true, Bool.not_false]; (try with_reducible (refine ⟨rfl, ?_⟩)); try simp only [decide_eq_true_eq, decide_eq_false_iff_not, Bool.not_eq_true', Bool.not_eq_false', Bool.not_true, Bool.not_false] at h; try exact absurd trivial h))
             | ((with_reducible apply go_pre); rfl)
             | (with_reducible apply go_pre_nil)
             | ((with_reducible apply go_suf); rfl)
             | (with_reducible apply go_suf_nil))
           | ((with_reducible (show evG _ _ _ _ _)); first
             | (with_reducible apply go_seq)
             | (with_reducible apply go_region)
             | ((with_reducible apply go_cond_f); rfl; rfl)
             | (((with_reducible apply go_cond); rfl) <;> (intro h; simp only [h]; try simp only [decide_eq_true_eq, decide_eq_false_iff_not, Bool.not_eq_true', Bool.not_eq_false', Bool.not_true, Bool.not_false] at h; try exact absurd trivial h))
             | ((with_reducible apply go_order); kernel_rfl; rfl)
             | (with_reducible apply go_ret)
             | (with_reducible apply go_skipc)
             | (with_reducible apply go_block)
             | (with_reducible apply go_exit))
           | (with_reducible apply go_kseq)
           | (with_reducible apply go_ksuf)
           | (with_reducible apply go_kblock)
           | (with_reducible apply go_kblock_exit)
           | (with_reducible apply go_kseq_exit)
    all_goals try first
      | (exfalso; omega)
      | (refine go_app_map (f := encSample) (a := l[i]) (l := selL l q a b i) scalSample rfl rfl rfl rfl rfl rfl (by kernel_rfl) (by kernel_rfl) (by omega) rfl ?_)
    repeat' first
           | (with_reducible apply go_op)
           | (with_reducible apply go_next)
           | ((with_reducible (show evOp _ _ _ _ _ _)); first
             | ((with_reducible (show evOp _ (.move _) _ _ _ _)) ; first | ((with_reducible apply go_mv_int); rfl; rfl) | ((with_reducible apply go_mv_os); rfl; rfl))
             | ((with_reducible apply go_as))
             | (((with_reducible apply go_add); rfl; rfl; rfl; omega)))
           | ((with_reducible (show evOps _ _ _ _ _ _)); first
             | (with_reducible apply go_nil))
           | ((with_reducible (show evG _ _ _ _ _)); first
             | (with_reducible apply go_region))
           | (with_reducible apply go_kseq)
           | (with_reducible apply go_kblock)
    all_goals first
      | (have hsel : selB q a b l[i] = true := by
           simp only [selB, Bool.and_eq_true, decide_eq_true_eq]; omega
         have e := selL_yes hlt hsel
         have el : (selL l q a b i).length + 1 = (selL l q a b (i + 1)).length := by rw [← e]; simp
         refine ⟨hlt, trivial, ?_⟩
         rw [e, el]
         exact entails_eq (nx := 32) (k := 7) (ns := []) (ks := [12, 13, 0, 1, 2, 3]) [(1, 1)] rfl (by simp) rfl)
      | (have hsel : selB q a b l[i] = false := by
           simp only [selB, Bool.and_eq_false_iff, decide_eq_false_iff_not]; omega
         refine ⟨hlt, trivial, ?_⟩
         rw [← selL_no hlt hsel]
         exact entails_eq (nx := 32) (k := 7) (ns := []) (ks := [12, 13, 0, 1, 2, 3]) [(1, 1)] rfl (by simp) rfl)
      | trace_state
  · have e : i = l.length := by omega
    subst e
    repeat' first
           | (with_reducible apply go_op)
           | (with_reducible apply go_next)
           | ((with_reducible (show evOp _ _ _ _ _ _)); first
             | ((with_reducible (show evOp _ (.move _) _ _ _ _)) ; first | ((with_reducible apply go_mv_int); rfl; rfl) | ((with_reducible apply go_mv_sl); rfl; rfl) | ((with_reducible apply go_mv_os); rfl; rfl))
             | ((with_reducible apply go_as))
             | (((with_reducible apply go_load); rfl; rfl; rfl))
             | (((with_reducible apply go_fieldAddr); rfl; rfl))
             | (((with_reducible apply go_index_nat); rfl; rfl; (with_reducible rfl); (intro; rfl); rfl; omega; (intro hlt)))
             | (((with_reducible apply go_cmp); rfl; rfl; rfl; rfl))
             | (((with_reducible apply go_len); rfl; rfl))
             | (((with_reducible apply go_bd2_int); rfl; rfl; rfl; rfl)))
           | ((with_reducible (show evOps _ _ _ _ _ _)); first
             | (with_reducible apply go_nil)
             | ((with_reducible apply go_pre); rfl))
           | ((with_reducible (show evG _ _ _ _ _)); first
             | (with_reducible apply go_seq)
             | (with_reducible apply go_region)
             | (((with_reducible apply go_cond); rfl) <;> (intro h; simp only [h]; try simp only [decide_eq_true_eq, decide_eq_false_iff_not, Bool.not_eq_true', Bool.not_eq_false', Bool.not_true, Bool.not_false] at h; try exact absurd trivial h))
             | ((with_reducible apply go_order); kernel_rfl; rfl)
             | (with_reducible apply go_ret)
             | (with_reducible apply go_skipc)
             | (with_reducible apply go_block)
             | (with_reducible apply go_exit))
           | (with_reducible apply go_kseq)
           | (with_reducible apply go_kblock_exit)
           | (with_reducible apply go_kseq_exit)
    all_goals first
      | (exfalso; omega)
      | exact finK_ret (fin_fr2 rfl (by simp) rfl rfl rfl)
      | trace_state
end Go.Pv.Soil

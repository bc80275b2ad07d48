import Derived.Test.YtdedpndkohfgbaaGreatProg
import Derived.Test.YtdedpndkohfgbaaGreatNAF
import Derived.Test.YtdedpndkohfgbaaGreatNAE
import Derived.Test.YtdedpndkohfgbaaGreatNAD
import Derived.KernelRfl
import Derived.Test.YtdedpndkohfgbaaGreatNAC
/- Part of the proofs over YtdedpndkohfgbaaGreat: U6, U8r, V4, V5, V6r, V7, V8r, U10, PH1, PH2, PH3, PH10. -/
set_option linter.unusedVariables false
set_option linter.unusedSimpArgs false
set_option linter.unnecessarySimpa false
open Go Go.Proofs Go.Pv Go.Shelf
set_option maxHeartbeats 4000000
set_option maxRecDepth 100000
set_option linter.unusedVariables false
namespace Go.Pv.Soil
def encRule (num den least : Int) : List D := [.int .i64 num, .int .i64 den, .int .i64 least]
theorem repP_int {w : World} {pu : Nat → Prop} {v : Value} {k : IntKind} {n : Int} (h : RepP w pu v (.int k n)) : v = .int k n := by cases h; rfl
theorem c_ranked (l : List Int) (num den least : Int) (hn : 0 < l.length) (h60 : l.length ≤ 60) (hl : least ≤ l.length) (hd : 1 ≤ den ∧ den ≤ 1000) (hnum : 1 ≤ num ∧ num ≤ den) :
    Contract Tryz.prog 63 [.sl (l.map encInt), .agg (encRule num den least)] (.ret (.tup [.int .i64 (rankI l num den), .int .i64 0])) := by
  refine ⟨⟨_, Tryz.func63, by kernel_rfl, by kernel_rfl⟩, fun S w args hS ⟨hsz, hrep⟩ => ?_⟩
  obtain ⟨v0, v1, rfl⟩ : ∃ v0 v1, args = #[v0, v1] := by
    match args, hsz with
    | ⟨[a, b]⟩, _ => exact ⟨a, b, rfl⟩
  have h0 := hrep 0 v0 _ rfl rfl
  have h1 := hrep 1 v1 _ rfl rfl
  obtain ⟨vs, rfl, hvl, hv⟩ : ∃ vs, v1 = .agg vs ∧ vs.size = 3 ∧ ∀ (i : Nat) (v : Value) (d : D), vs[i]? = some v → (encRule num den least)[i]? = some d → RepP w S v d := by
    cases h1 with
    | agg vs cs hl h => exact ⟨vs, rfl, hl, h⟩
  obtain ⟨a, b, c, rfl⟩ : ∃ a b c, vs = #[a, b, c] := by
    match vs, hvl with
    | ⟨[a, b, c]⟩, _ => exact ⟨a, b, c, rfl⟩
  have ea := repP_int (hv 0 a _ rfl rfl)
  have eb := repP_int (hv 1 b _ rfl rfl)
  have ec := repP_int (hv 2 c _ rfl rfl)
  subst ea eb ec
  obtain ⟨blk, off, cap, rfl, hlt, hc⟩ : ∃ blk off cap, v0 = .slice (some ⟨blk, off, none⟩) l.length cap ∧ blk < w.heap.size ∧ ∀ j, j < l.length → w.cell? ⟨blk, off + j, none⟩ = some (.int .i64 (l[j]?.getD 0)) := by
    generalize hrows : l.map encInt = rows at h0
    have hrl : rows.length = l.length := by rw [← hrows, List.length_map]
    cases h0 with
    | sl a cap rows k f hc hk hm h =>
      obtain ⟨blk, off, rfl, hp, hcell⟩ := hm (fun e => by rw [e] at hrl; simp at hrl; omega)
      refine ⟨blk, off, cap, by rw [hrl], hS _ hp, fun j hj => ?_⟩
      have hj' : j < rows.length := by omega
      have hk1 : k = 1 := by
        have := hk (rows[j]) (List.getElem_mem hj')
        have e : rows[j] = [D.int .i64 l[j]] := by subst hrows; simp [encInt]
        rw [e] at this; simpa using this.symm
      subst hk1
      have h3 := hcell j 0 hj' (by omega)
      have h4 := repP_int (h j 0 (.int .i64 l[j]) (by subst hrows; simp [cellAt, hj, encInt]))
      rw [h4] at h3
      rw [List.getElem?_eq_getElem hj]
      simpa using h3
  refine (callsIn_wide.1 (ranked_in Fence.wide trivial trivial trivial trivial trivial trivial trivial rfl (sorts _) blk off cap l num den least hn h60 hl hd hnum w hlt hc)).mono ?_
  rintro e w' ⟨rfl, hb⟩
  have hb' : Below w.heap.size w w' := ⟨hb.os, hb.tape, hb.output, hb.size, hb.block, Draws.any _ _⟩
  refine ⟨hb', fun _ => False, fun g h => h.elim, _, rfl, fun n => ⟨fun _ => .pending, ⟨fun b blk hb => by simp [adopt, adT, adE, adC, lkH] at hb, fun b _ => .inr rfl, fun b b' g h => h.elim, fun b g h => h.elim, fun g h => h.elim⟩, ?_, fun b _ => rfl⟩⟩
  refine .tup _ _ rfl fun i v d e1 e2 => ?_
  match i with
  | 0 => injection e1 with e1; injection e2 with e2; subst e1; subst e2; exact .pure _ _ (.int _ _)
  | 1 => injection e1 with e1; injection e2 with e2; subst e1; subst e2; exact .pure _ _ (.int _ _)
  | i + 2 => exact absurd e1 (by simp)
theorem c_few (l : List Int) (num den least : Int) (h60 : l.length ≤ 60) (hl : (l.length : Int) < least) :
    Contract Tryz.prog 63 [.sl (l.map encInt), .agg (encRule num den least)] (.ret (.tup [.int .i64 0, .int .i64 11])) := by
  refine contract_of mix Tryz.func63 rfl rfl (by rw [Tryz.ntmps63]; exact Nat.le_of_ble_eq_true rfl) ?_; rw [Tryz.results63, Tryz.ntmps63]; simp only [argsE, Nat.reduceAdd]
  repeat' first
           | (with_reducible apply go_op)
           | (with_reducible apply go_next)
           | ((with_reducible (show evOp _ _ _ _ _ _)); first
             | ((with_reducible (show evOp _ (.move _) _ _ _ _)) ; first | ((with_reducible apply go_mv_int); rfl; rfl) | ((with_reducible apply go_mv_sl); rfl; rfl))
             | ((with_reducible apply go_as))
             | (((with_reducible apply go_load_own); rfl; rfl; rfl; rfl))
             | (((with_reducible apply go_fieldAddr_own); rfl; rfl; rfl))
             | (((with_reducible apply go_cmp); rfl; rfl; rfl; rfl))
             | (((with_reducible apply go_len); rfl; rfl))
             | (((with_reducible apply go_bx_agg); rfl; rfl; (exact Nat.le_of_ble_eq_true rfl); rfl; rfl)))
           | ((with_reducible (show evOps _ _ _ _ _ _)); first
             | (with_reducible apply go_nil))
           | ((with_reducible (show evG _ _ _ _ _)); first
             | (with_reducible apply go_seq)
             | (with_reducible apply go_region)
             | (((with_reducible apply go_cond); rfl) <;> (intro h; simp only [h]; try simp only [decide_eq_true_eq, decide_eq_false_iff_not, Bool.not_eq_true', Bool.not_eq_false', Bool.not_true, Bool.not_false] at h; try exact absurd trivial h))
             | (with_reducible apply go_ret)
             | (with_reducible apply go_skipc))
           | (with_reducible apply go_kseq)
           | (with_reducible apply go_kseq_ret)
           | ((with_reducible apply end_t2); rfl; rfl; rfl; rfl)
  all_goals first | rfl | (exfalso; omega)
end Go.Pv.Soil

open Go Go.Proofs Go.Pv
set_option maxHeartbeats 4000000
set_option maxRecDepth 100000
set_option linter.unusedSimpArgs false
set_option linter.unusedVariables false
namespace Go.Pv.Soil
theorem c_ruleErr (num den least : Int) : Contract Tryz.prog 55 [.agg (encRule num den least)] (.ret (.int .i64 (if ruleOK num den least then 0 else 2))) := by
  refine contract_of mix Tryz.func55 rfl rfl (by rw [Tryz.ntmps55]; exact Nat.le_of_ble_eq_true rfl) ?_; rw [Tryz.results55, Tryz.ntmps55]; simp only [argsE, Nat.reduceAdd]
  repeat' first
           | (with_reducible apply go_op)
           | (with_reducible apply go_next)
           | ((with_reducible (show evOp _ _ _ _ _ _)); first
             | ((with_reducible (show evOp _ (.move _) _ _ _ _)) ; first | ((with_reducible apply go_mv_int); rfl; rfl) | ((with_reducible apply go_mv_bool); rfl; rfl))
             | ((with_reducible apply go_as))
             | (((with_reducible apply go_load_own); rfl; rfl; rfl; rfl))
             | (((with_reducible apply go_fieldAddr_own); rfl; rfl; rfl))
             | (((with_reducible apply go_fn_bool); rfl; (exact c108 _ _ _); rfl))
             | (((with_reducible apply go_not); rfl; rfl))
             | (((with_reducible apply go_pick); rfl; rfl; rfl))
             | (((with_reducible apply go_bx_agg); rfl; rfl; (exact Nat.le_of_ble_eq_true rfl); rfl; rfl)))
           | ((with_reducible (show evOps _ _ _ _ _ _)); first
             | (with_reducible apply go_nil)
             | ((with_reducible apply go_run); rfl; rfl)
             | ((with_reducible apply go_pass); rfl; rfl; rfl)
             | (((with_reducible apply go_guard); rfl) <;> (intro h; simp only [h, Bool.not_true, Bool.not_false]; (try with_reducible (refine ⟨rfl, ?_⟩)); try simp only [decide_eq_true_eq, decide_eq_false_iff_not, Bool.not_eq_true', Bool.not_eq_false', Bool.not_true, Bool.not_false] at h; try exact absurd trivial h)))
           | ((with_reducible (show evG _ _ _ _ _)); first
             | (with_reducible apply go_seq)
             | (with_reducible apply go_region)
             | ((with_reducible apply go_cond_t); rfl; rfl)
             | (((with_reducible apply go_cond); rfl) <;> (intro h; simp only [h]; try simp only [decide_eq_true_eq, decide_eq_false_iff_not, Bool.not_eq_true', Bool.not_eq_false', Bool.not_true, Bool.not_false] at h; try exact absurd trivial h))
             | (with_reducible apply go_ret)
             | (with_reducible apply go_skipc))
           | (with_reducible apply go_kseq)
           | (with_reducible apply go_kseq_ret)
           | ((with_reducible apply end_int); rfl)
  all_goals (unfold ruleOK; first | (rw [if_pos (by simp; omega)]; done) | (rw [if_neg (by simp; omega)]; done) | trace_state)
end Go.Pv.Soil

open Go Go.Proofs Go.Pv
set_option maxHeartbeats 4000000
set_option maxRecDepth 100000
set_option linter.unusedSimpArgs false
set_option linter.unusedVariables false
namespace Go.Pv.Soil
theorem c_substance (t : Standard) : Contract Tryz.prog 53 [.agg (encStd t)] (.ret (.str t.sub)) := by
  refine contract_of mix Tryz.func53 rfl rfl (by rw [Tryz.ntmps53]; exact Nat.le_of_ble_eq_true rfl) ?_; rw [Tryz.results53, Tryz.ntmps53]; simp only [argsE, Nat.reduceAdd]
  repeat' first
           | (with_reducible apply go_op)
           | (with_reducible apply go_next)
           | ((with_reducible (show evOp _ _ _ _ _ _)); first
             | (((with_reducible apply go_mv_str); rfl; rfl))
             | ((with_reducible apply go_as))
             | (((with_reducible apply go_load_own); rfl; rfl; rfl; rfl))
             | (((with_reducible apply go_fieldAddr_own); rfl; rfl; rfl))
             | (((with_reducible apply go_bx_agg); rfl; rfl; (exact Nat.le_of_ble_eq_true rfl); rfl; rfl)))
           | ((with_reducible (show evOps _ _ _ _ _ _)); first
             | (with_reducible apply go_nil))
           | ((with_reducible (show evG _ _ _ _ _)); first
             | (with_reducible apply go_seq)
             | (with_reducible apply go_region)
             | (with_reducible apply go_ret))
           | (with_reducible apply go_kseq)
           | ((with_reducible apply end_str); rfl)
           | (with_reducible rfl)
def limStep (l : List Int) (i : Nat) : Int := match l[i]? with
  | none => 0
  | some n => if inV n = false then 2 else if 0 < i ∧ n ≤ l.getD (i - 1) 0 then 9 else 0
/-- The error of a standard's limits. -/
def limE (l : List Int) : Int := if l.length = 0 then 10 else if 5 < l.length then 8 else firstE l.length (limStep l)
theorem limStep_at {l : List Int} {i : Nat} (h : i < l.length) : limStep l i = if inV l[i] = false then 2 else if 0 < i ∧ l[i] ≤ l.getD (i - 1) 0 then 9 else 0 := by
  simp only [limStep, List.getElem?_eq_getElem h]
theorem lim_at {l : List Int} {i : Nat} {e : Int} (hi : i < l.length) (hC : ∀ j, j < i → limStep l j = 0) (h : limStep l i = e) (he : e ≠ 0) : e = firstE l.length (limStep l) := by
  subst h
  exact (firstE_at hi hC he).symm
theorem lim_step {l : List Int} {i : Nat} (hC : ∀ j, j < i → limStep l j = 0) (h : limStep l i = 0) : ∀ j, j < i + 1 → limStep l j = 0 := fun j hj => by
  rcases Nat.lt_succ_iff_lt_or_eq.1 hj with h' | rfl
  · exact hC j h'
  · exact h
theorem c_limitsErr (t : Standard) (hl : t.limits.length ≤ 9223372036854775807) : Contract Tryz.prog 54 [.agg (encStd t)] (.ret (.int .i64 (limE t.limits))) := by
  obtain ⟨sub, l⟩ := t
  simp only at hl ⊢
  by_cases h0 : l.length = 0
  · rw [show limE l = 10 from if_pos h0]
    refine contract_of mix Tryz.func54 rfl rfl (by rw [Tryz.ntmps54]; exact Nat.le_of_ble_eq_true rfl) ?_; rw [Tryz.results54, Tryz.ntmps54]; simp only [argsE, Nat.reduceAdd]
    repeat' first
           | (with_reducible apply go_op)
           | (with_reducible apply go_next)
           | ((with_reducible (show evOp _ _ _ _ _ _)); first
             | (((with_reducible apply go_mv_int); rfl; rfl))
             | ((with_reducible apply go_as))
             | (((with_reducible apply go_load_own); rfl; rfl; rfl; rfl))
             | (((with_reducible apply go_fieldAddr_own); rfl; rfl; rfl))
             | (((with_reducible apply go_cmp); rfl; rfl; rfl; rfl))
             | (((with_reducible apply go_len); rfl; rfl))
             | (((with_reducible apply go_bx_agg); rfl; rfl; (exact Nat.le_of_ble_eq_true rfl); rfl; rfl)))
           | ((with_reducible (show evOps _ _ _ _ _ _)); first
             | (with_reducible apply go_nil))
           | ((with_reducible (show evG _ _ _ _ _)); first
             | (with_reducible apply go_seq)
             | (with_reducible apply go_region)
             | (((with_reducible apply go_cond); rfl) <;> (intro h; simp only [h]; try simp only [decide_eq_true_eq, decide_eq_false_iff_not, Bool.not_eq_true', Bool.not_eq_false', Bool.not_true, Bool.not_false] at h; try exact absurd trivial h))
             | (with_reducible apply go_ret)
             | (with_reducible apply go_skipc)
             | (with_reducible apply go_block))
           | (with_reducible apply go_kseq)
           | (with_reducible apply go_kseq_ret)
           | ((with_reducible apply end_int); rfl)
           | (with_reducible rfl)
    all_goals (exfalso; omega)
  · by_cases h5 : 5 < l.length
    · rw [show limE l = 8 by unfold limE; rw [if_neg h0, if_pos h5]]
      refine contract_of mix Tryz.func54 rfl rfl (by rw [Tryz.ntmps54]; exact Nat.le_of_ble_eq_true rfl) ?_; rw [Tryz.results54, Tryz.ntmps54]; simp only [argsE, Nat.reduceAdd]
      repeat' first
           | (with_reducible apply go_op)
           | (with_reducible apply go_next)
           | ((with_reducible (show evOp _ _ _ _ _ _)); first
             | (((with_reducible apply go_mv_int); rfl; rfl))
             | ((with_reducible apply go_as))
             | (((with_reducible apply go_load_own); rfl; rfl; rfl; rfl))
             | (((with_reducible apply go_fieldAddr_own); rfl; rfl; rfl))
             | (((with_reducible apply go_cmp); rfl; rfl; rfl; rfl))
             | (((with_reducible apply go_len); rfl; rfl))
             | (((with_reducible apply go_bx_agg); rfl; rfl; (exact Nat.le_of_ble_eq_true rfl); rfl; rfl)))
           | ((with_reducible (show evOps _ _ _ _ _ _)); first
             | (with_reducible apply go_nil))
           | ((with_reducible (show evG _ _ _ _ _)); first
             | (with_reducible apply go_seq)
             | (with_reducible apply go_region)
             | (((with_reducible apply go_cond); rfl) <;> (intro h; simp only [h]; try simp only [decide_eq_true_eq, decide_eq_false_iff_not, Bool.not_eq_true', Bool.not_eq_false', Bool.not_true, Bool.not_false] at h; try exact absurd trivial h))
             | (with_reducible apply go_ret)
             | (with_reducible apply go_skipc)
             | (with_reducible apply go_block))
           | (with_reducible apply go_kseq)
           | (with_reducible apply go_kseq_ret)
           | ((with_reducible apply end_int); rfl)
           | (with_reducible rfl)
      all_goals (exfalso; omega)
    · rw [show limE l = firstE l.length (limStep l) by unfold limE; rw [if_neg h0, if_neg h5]]
      refine contract_of mix Tryz.func54 rfl rfl (by rw [Tryz.ntmps54]; exact Nat.le_of_ble_eq_true rfl) ?_; rw [Tryz.results54, Tryz.ntmps54]; simp only [argsE, Nat.reduceAdd]
      repeat' first
           | (with_reducible apply go_op)
           | (with_reducible apply go_next)
           | ((with_reducible (show evOp _ _ _ _ _ _)); first
             | (((with_reducible apply go_mv_int); rfl; rfl))
             | ((with_reducible apply go_as))
             | (((with_reducible apply go_load_own); rfl; rfl; rfl; rfl))
             | (((with_reducible apply go_fieldAddr_own); rfl; rfl; rfl))
             | (((with_reducible apply go_cmp); rfl; rfl; rfl; rfl))
             | (((with_reducible apply go_len); rfl; rfl))
             | (((with_reducible apply go_bx_agg); rfl; rfl; (exact Nat.le_of_ble_eq_true rfl); rfl; rfl)))
           | ((with_reducible (show evOps _ _ _ _ _ _)); first
             | (with_reducible apply go_nil))
           | ((with_reducible (show evG _ _ _ _ _)); first
             | (with_reducible apply go_seq)
             | (with_reducible apply go_region)
             | (((with_reducible apply go_cond); rfl) <;> (intro h; simp only [h]; try simp only [decide_eq_true_eq, decide_eq_false_iff_not, Bool.not_eq_true', Bool.not_eq_false', Bool.not_true, Bool.not_false] at h; try exact absurd trivial h))
             | (with_reducible apply go_ret)
             | (with_reducible apply go_skipc)
             | (with_reducible apply go_block))
           | (with_reducible apply go_kseq)
           | (with_reducible apply go_kseq_ret)
           | ((with_reducible apply end_int); rfl)
      all_goals try (exfalso; omega)
      refine go_count l.length (fun i => ⟨[(16, .int .i64 i), (15, .int .i64 l.length), (14, .sl (l.map encInt)), (1, .op 0 0 0)], [(0, ⟨2, true, [[.str sub, .sl (l.map encInt)]]⟩)], 32, 37⟩) (fun i => ∀ j, j < i → limStep l j = 0) (entails_eq (nx := 32) (k := 0) (ns := []) (ks := [16, 15, 14, 1]) [(0, 0)] rfl (by simp) (by kernel_rfl)) (fun j hj => absurd hj (by omega)) ?_
      intro i hi hC
      by_cases hlt : i < l.length
      · have hs := limStep_at hlt
        have hgd : 0 < i → ∀ h : ((i : Int) - 1).toNat < l.length, l.getD (i - 1) 0 = l[((i : Int) - 1).toNat]'h := fun hp h => by
          have e : ((i : Int) - 1).toNat = i - 1 := by omega
          rw [List.getD_eq_getElem?_getD, ← e, List.getElem?_eq_getElem h]; rfl
        repeat' first
           | (with_reducible apply go_op)
           | (with_reducible apply go_next)
           | ((with_reducible (show evOp _ _ _ _ _ _)); first
             | ((with_reducible (show evOp _ (.move _) _ _ _ _)) ; first | ((with_reducible apply go_mv_int); rfl; rfl) | ((with_reducible apply go_mv_bool); rfl; rfl))
             | ((with_reducible apply go_as))
             | ((with_reducible (show evOp _ (.load _ _) _ _ _ _)) ; first | ((with_reducible apply go_load); rfl; rfl; rfl) | ((with_reducible apply go_load_own); rfl; rfl; rfl; rfl))
             | (((with_reducible apply go_fieldAddr_own); rfl; rfl; rfl))
             | ((with_reducible (show evOp _ (.indexAddr _ _ _) _ _ _ _)) ; first | ((with_reducible apply go_index_nat); rfl; rfl; (with_reducible rfl); (intro; rfl); rfl; omega; (intro hlt)) | ((with_reducible apply go_index); rfl; rfl; (intro; rfl); rfl; omega; intro hlt))
             | ((with_reducible (show evOp _ (.binOp _ _ _ _ _) _ _ _ _)) ; first | ((with_reducible apply go_cmp); rfl; rfl; rfl; rfl) | ((with_reducible apply go_add); rfl; rfl; rfl; omega) | ((with_reducible apply go_sub); rfl; rfl; rfl; omega))
             | (((with_reducible apply go_fn_bool); rfl; (exact c108 _ _ _); rfl))
             | (((with_reducible apply go_not); rfl; rfl))
             | (((with_reducible apply go_pick); rfl; rfl; rfl)))
           | ((with_reducible (show evOps _ _ _ _ _ _)); first
             | (with_reducible apply go_nil)
             | ((with_reducible apply go_run); rfl; rfl)
             | ((with_reducible apply go_pass); rfl; rfl; rfl)
             | (((with_reducible apply go_guard); rfl) <;> (intro h; simp only [h, Bool.not_true, Bool.not_false]; (try with_reducible (refine ⟨rfl, ?_⟩)); try simp only [decide_eq_true_eq, decide_eq_false_iff_not, Bool.not_eq_true', Bool.not_eq_false', Bool.not_true, Bool.not_false] at h; try exact absurd trivial h)))
           | ((with_reducible (show evG _ _ _ _ _)); first
             | (with_reducible apply go_seq)
             | (with_reducible apply go_region)
             | ((with_reducible apply go_cond_f); rfl; rfl)
             | (((with_reducible apply go_cond); rfl) <;> (intro h; simp only [h]; try simp only [decide_eq_true_eq, decide_eq_false_iff_not, Bool.not_eq_true', Bool.not_eq_false', Bool.not_true, Bool.not_false] at h; try exact absurd trivial h))
             | (with_reducible apply go_ret)
             | (with_reducible apply go_skipc)
             | (with_reducible apply go_block)
             | (with_reducible apply go_exit))
           | (with_reducible apply go_kseq)
           | (with_reducible apply go_kseq_ret)
           | (with_reducible apply go_kblock)
           | (with_reducible apply go_kblock_ret)
           | (with_reducible apply go_kblock_exit)
           | (with_reducible apply go_kseq_exit)
           | ((with_reducible apply end_int); rfl)
        all_goals try exact absurd hlt (by omega)
        all_goals first
          | exact lim_at (i := i) (by omega) hC (by rw [hs, if_pos (by simp [inV]; omega)]) (by decide)
          | (refine lim_at (i := i) (by omega) hC ?_ (by decide)
             rw [hs, if_neg (by simp [inV]; omega), if_pos (show 0 < i ∧ l[i] ≤ l.getD (i - 1) 0 from ⟨by omega, by rw [hgd (by omega) (by omega)]; assumption⟩)])
          | (refine ⟨by omega, lim_step hC ?_, entails_eq (nx := 32) (k := 0) (ns := []) (ks := [16, 15, 14, 1]) [(0, 0)] rfl (by simp) (by kernel_rfl)⟩
             rw [hs, if_neg (by simp [inV]; omega), if_neg ?_]
             rintro ⟨h1, h2⟩
             first
               | omega
               | (rw [hgd (by omega) (by omega)] at h2
                  exact absurd h2 (by assumption)))
          | trace_state
      · repeat' first
           | (with_reducible apply go_op)
           | (with_reducible apply go_next)
           | ((with_reducible (show evOp _ _ _ _ _ _)); first
             | (((with_reducible apply go_mv_int); rfl; rfl))
             | ((with_reducible apply go_as))
             | (((with_reducible apply go_load); rfl; rfl; rfl))
             | (((with_reducible apply go_index_nat); rfl; rfl; (with_reducible rfl); (intro; rfl); rfl; omega; (intro hlt)))
             | (((with_reducible apply go_cmp); rfl; rfl; rfl; rfl)))
           | ((with_reducible (show evOps _ _ _ _ _ _)); first
             | (with_reducible apply go_nil))
           | ((with_reducible (show evG _ _ _ _ _)); first
             | (with_reducible apply go_seq)
             | (with_reducible apply go_region)
             | (((with_reducible apply go_cond); rfl) <;> (intro h; simp only [h]; try simp only [decide_eq_true_eq, decide_eq_false_iff_not, Bool.not_eq_true', Bool.not_eq_false', Bool.not_true, Bool.not_false] at h; try exact absurd trivial h))
             | (with_reducible apply go_ret)
             | (with_reducible apply go_skipc)
             | (with_reducible apply go_block)
             | (with_reducible apply go_exit))
           | (with_reducible apply go_kseq)
           | (with_reducible apply go_kblock_exit)
           | (with_reducible apply go_kseq_exit)
           | ((with_reducible apply end_int); rfl)
        all_goals first
          | exact absurd hlt (by omega)
          | exact (firstE_zero fun j hj => hC j (by omega)).symm
          | trace_state
theorem c_checkLimits (t : Standard) (hl : t.limits.length ≤ 9223372036854775807) : Contract Tryz.prog 65 [.agg (encStd t)] (.ret (.int .i64 (limE t.limits))) := by
  obtain ⟨sub, l⟩ := t
  simp only at hl ⊢
  by_cases h0 : l.length = 0
  · rw [show limE l = 10 from if_pos h0]
    refine contract_of mix Tryz.func65 rfl rfl (by rw [Tryz.ntmps65]; exact Nat.le_of_ble_eq_true rfl) ?_; rw [Tryz.results65, Tryz.ntmps65]; simp only [argsE, Nat.reduceAdd]
    repeat' first
           | (with_reducible apply go_op)
           | (with_reducible apply go_next)
           | ((with_reducible (show evOp _ _ _ _ _ _)); first
             | (((with_reducible apply go_mv_int); rfl; rfl))
             | ((with_reducible apply go_as))
             | (((with_reducible apply go_load_own); rfl; rfl; rfl; rfl))
             | (((with_reducible apply go_fieldAddr_own); rfl; rfl; rfl))
             | (((with_reducible apply go_cmp); rfl; rfl; rfl; rfl))
             | (((with_reducible apply go_len); rfl; rfl))
             | (((with_reducible apply go_bx_agg); rfl; rfl; (exact Nat.le_of_ble_eq_true rfl); rfl; rfl)))
           | ((with_reducible (show evOps _ _ _ _ _ _)); first
             | (with_reducible apply go_nil))
           | ((with_reducible (show evG _ _ _ _ _)); first
             | (with_reducible apply go_seq)
             | (with_reducible apply go_region)
             | (((with_reducible apply go_cond); rfl) <;> (intro h; simp only [h]; try simp only [decide_eq_true_eq, decide_eq_false_iff_not, Bool.not_eq_true', Bool.not_eq_false', Bool.not_true, Bool.not_false] at h; try exact absurd trivial h))
             | (with_reducible apply go_ret)
             | (with_reducible apply go_skipc)
             | (with_reducible apply go_block))
           | (with_reducible apply go_kseq)
           | (with_reducible apply go_kseq_ret)
           | ((with_reducible apply end_int); rfl)
           | (with_reducible rfl)
    all_goals (exfalso; omega)
  · by_cases h5 : 5 < l.length
    · rw [show limE l = 8 by unfold limE; rw [if_neg h0, if_pos h5]]
      refine contract_of mix Tryz.func65 rfl rfl (by rw [Tryz.ntmps65]; exact Nat.le_of_ble_eq_true rfl) ?_; rw [Tryz.results65, Tryz.ntmps65]; simp only [argsE, Nat.reduceAdd]
      repeat' first
           | (with_reducible apply go_op)
           | (with_reducible apply go_next)
           | ((with_reducible (show evOp _ _ _ _ _ _)); first
             | (((with_reducible apply go_mv_int); rfl; rfl))
             | ((with_reducible apply go_as))
             | (((with_reducible apply go_load_own); rfl; rfl; rfl; rfl))
             | (((with_reducible apply go_fieldAddr_own); rfl; rfl; rfl))
             | (((with_reducible apply go_cmp); rfl; rfl; rfl; rfl))
             | (((with_reducible apply go_len); rfl; rfl))
             | (((with_reducible apply go_bx_agg); rfl; rfl; (exact Nat.le_of_ble_eq_true rfl); rfl; rfl)))
           | ((with_reducible (show evOps _ _ _ _ _ _)); first
             | (with_reducible apply go_nil))
           | ((with_reducible (show evG _ _ _ _ _)); first
             | (with_reducible apply go_seq)
             | (with_reducible apply go_region)
             | (((with_reducible apply go_cond); rfl) <;> (intro h; simp only [h]; try simp only [decide_eq_true_eq, decide_eq_false_iff_not, Bool.not_eq_true', Bool.not_eq_false', Bool.not_true, Bool.not_false] at h; try exact absurd trivial h))
             | (with_reducible apply go_ret)
             | (with_reducible apply go_skipc)
             | (with_reducible apply go_block))
           | (with_reducible apply go_kseq)
           | (with_reducible apply go_kseq_ret)
           | ((with_reducible apply end_int); rfl)
           | (with_reducible rfl)
      all_goals (exfalso; omega)
    · rw [show limE l = firstE l.length (limStep l) by unfold limE; rw [if_neg h0, if_neg h5]]
      refine contract_of mix Tryz.func65 rfl rfl (by rw [Tryz.ntmps65]; exact Nat.le_of_ble_eq_true rfl) ?_; rw [Tryz.results65, Tryz.ntmps65]; simp only [argsE, Nat.reduceAdd]
      repeat' first
           | (with_reducible apply go_op)
           | (with_reducible apply go_next)
           | ((with_reducible (show evOp _ _ _ _ _ _)); first
             | (((with_reducible apply go_mv_int); rfl; rfl))
             | ((with_reducible apply go_as))
             | (((with_reducible apply go_load_own); rfl; rfl; rfl; rfl))
             | (((with_reducible apply go_fieldAddr_own); rfl; rfl; rfl))
             | (((with_reducible apply go_cmp); rfl; rfl; rfl; rfl))
             | (((with_reducible apply go_len); rfl; rfl))
             | (((with_reducible apply go_bx_agg); rfl; rfl; (exact Nat.le_of_ble_eq_true rfl); rfl; rfl)))
           | ((with_reducible (show evOps _ _ _ _ _ _)); first
             | (with_reducible apply go_nil))
           | ((with_reducible (show evG _ _ _ _ _)); first
             | (with_reducible apply go_seq)
             | (with_reducible apply go_region)
             | (((with_reducible apply go_cond); rfl) <;> (intro h; simp only [h]; try simp only [decide_eq_true_eq, decide_eq_false_iff_not, Bool.not_eq_true', Bool.not_eq_false', Bool.not_true, Bool.not_false] at h; try exact absurd trivial h))
             | (with_reducible apply go_ret)
             | (with_reducible apply go_skipc)
             | (with_reducible apply go_block))
           | (with_reducible apply go_kseq)
           | (with_reducible apply go_kseq_ret)
           | ((with_reducible apply end_int); rfl)
      all_goals try (exfalso; omega)
      refine go_count l.length (fun i => ⟨[(3, .int .i64 i), (1, .op 0 0 0)], [(0, ⟨2, true, [[.str sub, .sl (l.map encInt)]]⟩)], 32, 42⟩) (fun i => ∀ j, j < i → limStep l j = 0) (entails_eq (nx := 32) (k := 0) (ns := []) (ks := [3, 1]) [(0, 0)] rfl (by simp) (by kernel_rfl)) (fun j hj => absurd hj (by omega)) ?_
      intro i hi hC
      by_cases hlt : i < l.length
      · have hs := limStep_at hlt
        have hgd : 0 < i → ∀ h : ((i : Int) - 1).toNat < l.length, l.getD (i - 1) 0 = l[((i : Int) - 1).toNat]'h := fun hp h => by
          have e : ((i : Int) - 1).toNat = i - 1 := by omega
          rw [List.getD_eq_getElem?_getD, ← e, List.getElem?_eq_getElem h]; rfl
        repeat' first
           | (with_reducible apply go_op)
           | (with_reducible apply go_next)
           | ((with_reducible (show evOp _ _ _ _ _ _)); first
             | ((with_reducible (show evOp _ (.move _) _ _ _ _)) ; first | ((with_reducible apply go_mv_int); rfl; rfl) | ((with_reducible apply go_mv_bool); rfl; rfl))
             | ((with_reducible apply go_as))
             | ((with_reducible (show evOp _ (.load _ _) _ _ _ _)) ; first | ((with_reducible apply go_load); rfl; rfl; rfl) | ((with_reducible apply go_load_own); rfl; rfl; rfl; rfl))
             | (((with_reducible apply go_fieldAddr_own); rfl; rfl; rfl))
             | ((with_reducible (show evOp _ (.indexAddr _ _ _) _ _ _ _)) ; first | ((with_reducible apply go_index_nat); rfl; rfl; (with_reducible rfl); (intro; rfl); rfl; omega; (intro hlt)) | ((with_reducible apply go_index); rfl; rfl; (intro; rfl); rfl; omega; intro hlt))
             | ((with_reducible (show evOp _ (.binOp _ _ _ _ _) _ _ _ _)) ; first | ((with_reducible apply go_cmp); rfl; rfl; rfl; rfl) | ((with_reducible apply go_add); rfl; rfl; rfl; omega) | ((with_reducible apply go_sub); rfl; rfl; rfl; omega))
             | ((with_reducible (show evOp _ (.call _) _ _ _ _)) ; first | ((with_reducible apply go_len); rfl; rfl) | ((with_reducible apply go_fn_bool); rfl; (exact c38 _ _ _); rfl))
             | (((with_reducible apply go_not); rfl; rfl))
             | (((with_reducible apply go_pick); rfl; rfl; rfl)))
           | ((with_reducible (show evOps _ _ _ _ _ _)); first
             | (with_reducible apply go_nil)
             | ((with_reducible apply go_run); rfl; rfl)
             | ((with_reducible apply go_pass); rfl; rfl; rfl)
             | (((with_reducible apply go_guard); rfl) <;> (intro h; simp only [h, Bool.not_true, Bool.not_false]; (try with_reducible (refine ⟨rfl, ?_⟩)); try simp only [decide_eq_true_eq, decide_eq_false_iff_not, Bool.not_eq_true', Bool.not_eq_false', Bool.not_true, Bool.not_false] at h; try exact absurd trivial h))
             | ((with_reducible apply go_pre); rfl)
             | (with_reducible apply go_pre_nil)
             | ((with_reducible apply go_suf); rfl)
             | (with_reducible apply go_suf_nil))
           | ((with_reducible (show evG _ _ _ _ _)); first
             | (with_reducible apply go_seq)
             | (with_reducible apply go_region)
             | ((with_reducible apply go_cond_f); rfl; rfl)
             | (((with_reducible apply go_cond); rfl) <;> (intro h; simp only [h]; try simp only [decide_eq_true_eq, decide_eq_false_iff_not, Bool.not_eq_true', Bool.not_eq_false', Bool.not_true, Bool.not_false] at h; try exact absurd trivial h))
             | ((with_reducible apply go_order); kernel_rfl; rfl)
             | (with_reducible apply go_ret)
             | (with_reducible apply go_skipc)
             | (with_reducible apply go_block)
             | (with_reducible apply go_exit))
           | (with_reducible apply go_kseq)
           | (with_reducible apply go_ksuf)
           | (with_reducible apply go_kseq_ret)
           | (with_reducible apply go_kblock)
           | (with_reducible apply go_kblock_ret)
           | (with_reducible apply go_kblock_exit)
           | (with_reducible apply go_kseq_exit)
           | ((with_reducible apply end_int); rfl)
        all_goals try exact absurd hlt (by omega)
        all_goals first
          | exact lim_at (i := i) (by omega) hC (by rw [hs, if_pos (by simp [inV]; omega)]) (by decide)
          | (refine lim_at (i := i) (by omega) hC ?_ (by decide)
             rw [hs, if_neg (by simp [inV]; omega), if_pos (show 0 < i ∧ l[i] ≤ l.getD (i - 1) 0 from ⟨by omega, by rw [hgd (by omega) (by omega)]; assumption⟩)])
          | (refine ⟨by omega, lim_step hC ?_, entails_eq (nx := 32) (k := 0) (ns := []) (ks := [3, 1]) [(0, 0)] rfl (by simp) (by kernel_rfl)⟩
             rw [hs, if_neg (by simp [inV]; omega), if_neg ?_]
             rintro ⟨h1, h2⟩
             first
               | omega
               | (rw [hgd (by omega) (by omega)] at h2
                  exact absurd h2 (by assumption)))
          | trace_state
      · repeat' first
           | (with_reducible apply go_op)
           | (with_reducible apply go_next)
           | ((with_reducible (show evOp _ _ _ _ _ _)); first
             | (((with_reducible apply go_mv_int); rfl; rfl))
             | ((with_reducible apply go_as))
             | ((with_reducible (show evOp _ (.load _ _) _ _ _ _)) ; first | ((with_reducible apply go_load); rfl; rfl; rfl) | ((with_reducible apply go_load_own); rfl; rfl; rfl; rfl))
             | (((with_reducible apply go_fieldAddr_own); rfl; rfl; rfl))
             | (((with_reducible apply go_index_nat); rfl; rfl; (with_reducible rfl); (intro; rfl); rfl; omega; (intro hlt)))
             | (((with_reducible apply go_cmp); rfl; rfl; rfl; rfl))
             | (((with_reducible apply go_len); rfl; rfl)))
           | ((with_reducible (show evOps _ _ _ _ _ _)); first
             | (with_reducible apply go_nil))
           | ((with_reducible (show evG _ _ _ _ _)); first
             | (with_reducible apply go_seq)
             | (with_reducible apply go_region)
             | (((with_reducible apply go_cond); rfl) <;> (intro h; simp only [h]; try simp only [decide_eq_true_eq, decide_eq_false_iff_not, Bool.not_eq_true', Bool.not_eq_false', Bool.not_true, Bool.not_false] at h; try exact absurd trivial h))
             | (with_reducible apply go_ret)
             | (with_reducible apply go_skipc)
             | (with_reducible apply go_block)
             | (with_reducible apply go_exit))
           | (with_reducible apply go_kseq)
           | (with_reducible apply go_kblock_exit)
           | (with_reducible apply go_kseq_exit)
           | ((with_reducible apply end_int); rfl)
        all_goals first
          | exact absurd hlt (by omega)
          | exact (firstE_zero fun j hj => hC j (by omega)).symm
          | trace_state
end Go.Pv.Soil

open Go Go.Proofs Go.Pv
set_option maxHeartbeats 4000000
set_option maxRecDepth 100000
set_option linter.unusedSimpArgs false
set_option linter.unusedVariables false
namespace Go.Pv.Soil
theorem c151T (x : Soil) (s : ByteArray) : Contract Tryz.prog 172 [.agg (encSoil x), .ptr [.str s]] (.ret (.bool (decide (x.name = s)))) := by
  refine contract_of mix Tryz.func172 rfl rfl (by rw [Tryz.ntmps172]; exact Nat.le_of_ble_eq_true rfl) ?_; rw [Tryz.results172, Tryz.ntmps172]; simp only [argsE, Nat.reduceAdd]
  repeat' first
           | (with_reducible apply go_op)
           | (with_reducible apply go_next)
           | ((with_reducible (show evOp _ _ _ _ _ _)); first
             | (((with_reducible apply go_mv_bool); rfl; rfl))
             | ((with_reducible apply go_as))
             | ((with_reducible (show evOp _ (.load _ _) _ _ _ _)) ; first | ((with_reducible apply go_load); rfl; rfl; rfl) | ((with_reducible apply go_load_own); rfl; rfl; rfl; rfl))
             | (((with_reducible apply go_fieldAddr_own); rfl; rfl; rfl))
             | (((with_reducible apply go_bin); rfl; rfl))
             | (((with_reducible apply go_bx_agg); rfl; rfl; (exact Nat.le_of_ble_eq_true rfl); rfl; rfl)))
           | ((with_reducible (show evOps _ _ _ _ _ _)); first
             | (with_reducible apply go_nil))
           | ((with_reducible (show evG _ _ _ _ _)); first
             | (with_reducible apply go_seq)
             | (with_reducible apply go_region)
             | (with_reducible apply go_ret))
           | (with_reducible apply go_kseq)
           | ((with_reducible apply end_bool); rfl)
           | (with_reducible rfl)
theorem c177T (l : List Standard) (hl : l.length < 1000000000000) (g : FuncId) (ys : List D) (hst : Stab ys) (hpu : pureL ys = true) (p : Standard → Bool) (hf : ∀ x ∈ l, Contract Tryz.prog g (.agg (encStd x) :: ys) (.ret (.bool (p x)))) :
    Contract Tryz.prog 121 [.sl (l.map encStd), .clo (.func g) [] ys] (.ret (.int .i64 (idxOf p l))) := by
  refine contract_of mix Tryz.func121 rfl rfl (by rw [Tryz.ntmps121]; exact Nat.le_of_ble_eq_true rfl) ?_; rw [Tryz.results121, Tryz.ntmps121]; simp only [argsE, Nat.reduceAdd]
  repeat' first
           | (with_reducible apply go_op)
           | (with_reducible apply go_next)
           | ((with_reducible (show evOp _ _ _ _ _ _)); first
             | ((with_reducible (show evOp _ (.move _) _ _ _ _)) ; first | ((with_reducible apply go_mv_int); rfl; rfl) | ((with_reducible apply go_mv_sl); rfl; rfl))
             | ((with_reducible apply go_as))
             | (((with_reducible apply go_len); rfl; rfl)))
           | ((with_reducible (show evOps _ _ _ _ _ _)); first
             | (with_reducible apply go_nil))
           | ((with_reducible (show evG _ _ _ _ _)); first
             | (with_reducible apply go_seq)
             | (with_reducible apply go_region)
             | (with_reducible apply go_block))
           | (with_reducible apply go_kseq)
  have e8 : ∀ i : Nat, (⟨[(8, .int .i64 i), (7, .int .i64 l.length), (0, .sl (l.map encStd)), (1, .clo (.func g) [] (renL [] ys))], [], 0, 19⟩ : St) = ⟨[(8, .int .i64 i), (7, .int .i64 l.length), (0, .sl (l.map encStd)), (1, .clo (.func g) [] ys)], [], 0, 19⟩ := fun i => by rw [renL_pure hpu]
  refine go_count l.length (fun i => ⟨[(8, .int .i64 i), (7, .int .i64 l.length), (0, .sl (l.map encStd)), (1, .clo (.func g) [] ys)], [], 0, 19⟩) (fun i => ∀ j (hj : j < i) (hj' : j < l.length), p l[j] = false) (entails_eq (k := 0) (ns := []) (ks := [8, 7, 0, 1]) [] rfl (by simp) (e8 _)) (by omega) ?_
  intro i hi hC
  repeat' first
           | (with_reducible apply go_op)
           | (with_reducible apply go_next)
           | ((with_reducible (show evOp _ _ _ _ _ _)); first
             | ((with_reducible (show evOp _ (.move _) _ _ _ _)) ; first | ((with_reducible apply go_mv_int); rfl; rfl) | ((with_reducible apply go_mv_sl); rfl; rfl) | ((with_reducible apply go_mv_clo); rfl; rfl))
             | ((with_reducible apply go_as))
             | (((with_reducible apply go_ld_ptr); rfl; rfl; rfl))
             | (((with_reducible apply go_index_nat); rfl; rfl; (with_reducible rfl); (intro; rfl); rfl; omega; (intro hlt)))
             | (((with_reducible apply go_cmp); rfl; rfl; rfl; rfl)))
           | ((with_reducible (show evOps _ _ _ _ _ _)); first
             | (with_reducible apply go_nil))
           | ((with_reducible (show evG _ _ _ _ _)); first
             | (with_reducible apply go_seq)
             | (with_reducible apply go_region)
             | (((with_reducible apply go_cond); rfl) <;> (intro h; simp only [h]; try simp only [decide_eq_true_eq, decide_eq_false_iff_not, Bool.not_eq_true', Bool.not_eq_false', Bool.not_true, Bool.not_false] at h; try exact absurd trivial h))
             | (with_reducible apply go_ret)
             | (with_reducible apply go_skipc)
             | (with_reducible apply go_block)
             | (with_reducible apply go_exit))
           | (with_reducible apply go_kseq)
           | (with_reducible apply go_kblock_exit)
           | (with_reducible apply go_kseq_exit)
           | ((with_reducible apply end_int); rfl)
  · refine go_clo_bool rfl rfl hst (hf l[i] (List.getElem_mem _)) rfl ?_
    repeat' first
           | (with_reducible apply go_op)
           | (with_reducible apply go_next)
           | ((with_reducible (show evOp _ _ _ _ _ _)); first
             | (((with_reducible apply go_mv_int); rfl; rfl))
             | ((with_reducible apply go_as))
             | (((with_reducible apply go_add); rfl; rfl; rfl; omega)))
           | ((with_reducible (show evOps _ _ _ _ _ _)); first
             | (with_reducible apply go_nil))
           | ((with_reducible (show evG _ _ _ _ _)); first
             | (with_reducible apply go_seq)
             | (with_reducible apply go_region)
             | (((with_reducible apply go_cond); rfl) <;> (intro h; simp only [h]; try simp only [decide_eq_true_eq, decide_eq_false_iff_not, Bool.not_eq_true', Bool.not_eq_false', Bool.not_true, Bool.not_false] at h; try exact absurd trivial h))
             | (with_reducible apply go_ret)
             | (with_reducible apply go_skipc))
           | (with_reducible apply go_kseq)
           | (with_reducible apply go_kseq_ret)
           | (with_reducible apply go_kblock)
           | (with_reducible apply go_kblock_ret)
           | ((with_reducible apply end_int); rfl)
    · have h2 : i < l.length := by omega
      exact (idxOf_some h2 h fun j hj => hC j hj (by omega)).symm
    · have h2 : i < l.length := by omega
      refine ⟨by omega, fun j hj hj' => ?_, entails_eq (k := 0) (ns := []) (ks := [8, 7, 0, 1]) [] rfl (by simp) (e8 _)⟩
      rcases Nat.lt_succ_iff_lt_or_eq.1 hj with h' | rfl
      · exact hC j h' hj'
      · exact h
  · refine (idxOf_none fun x hx => ?_).symm
    obtain ⟨j, hj, rfl⟩ := List.mem_iff_getElem.1 hx
    exact hC j (by omega) hj
theorem c140T (l : List Standard) (hl : l.length < 1000000000000) (g : FuncId) (ys : List D) (hst : Stab ys) (hpu : pureL ys = true) (p : Standard → Bool) (hf : ∀ x ∈ l, Contract Tryz.prog g (.agg (encStd x) :: ys) (.ret (.bool (p x)))) :
    Contract Tryz.prog 87 [.sl (l.map encStd), .clo (.func g) [] ys] (.ret (.bool (l.any p))) := by
  refine contract_of mix Tryz.func87 rfl rfl (by rw [Tryz.ntmps87]; exact Nat.le_of_ble_eq_true rfl) ?_; rw [Tryz.results87, Tryz.ntmps87]; simp only [argsE, Nat.reduceAdd]
  repeat' first
           | (with_reducible apply go_op)
           | (with_reducible apply go_next)
           | ((with_reducible (show evOp _ _ _ _ _ _)); first
             | ((with_reducible (show evOp _ (.move _) _ _ _ _)) ; first | ((with_reducible apply go_mv_bool); rfl; rfl) | ((with_reducible apply go_mv_sl); rfl; rfl) | ((with_reducible apply go_mv_clo); rfl; rfl))
             | ((with_reducible apply go_as)))
           | ((with_reducible (show evOps _ _ _ _ _ _)); first
             | (with_reducible apply go_nil))
           | ((with_reducible (show evG _ _ _ _ _)); first
             | (with_reducible apply go_seq)
             | (with_reducible apply go_region))
           | (with_reducible apply go_kseq)
  refine go_fn_int (args' := [.sl (l.map encStd), .clo (.func g) [] ys]) ?_ (c177T l hl g ys hst hpu p hf) rfl ?_
  · have e := hst (lkH []) 45
    simp only [List.map_cons, List.map_nil, evalD, lkE, purL, pur, Option.bind_some, Option.map_some, Nat.reduceEqDiff, if_true, if_false, e]
  repeat' first
           | (with_reducible apply go_op)
           | (with_reducible apply go_next)
           | ((with_reducible (show evOp _ _ _ _ _ _)); first
             | (((with_reducible apply go_mv_bool); rfl; rfl))
             | ((with_reducible apply go_as))
             | (((with_reducible apply go_cmp); rfl; rfl; rfl; rfl)))
           | ((with_reducible (show evOps _ _ _ _ _ _)); first
             | (with_reducible apply go_nil))
           | ((with_reducible (show evG _ _ _ _ _)); first
             | (with_reducible apply go_ret))
           | (with_reducible apply go_kseq)
           | ((with_reducible apply end_bool); rfl)
  exact idxOf_ge
theorem c141T (x : Standard) (s nm : ByteArray) (g : FuncId) (hn : Contract Tryz.prog g [.agg (encStd x)] (.ret (.str nm))) : Contract Tryz.prog 88 [.agg (encStd x), .ptr [.clo (.func g) [] []], .ptr [.str s]] (.ret (.bool (decide (nm = s)))) := by
  refine contract_of mix Tryz.func88 rfl rfl (by rw [Tryz.ntmps88]; exact Nat.le_of_ble_eq_true rfl) ?_; rw [Tryz.results88, Tryz.ntmps88]; simp only [argsE, Nat.reduceAdd]
  repeat' first
           | (with_reducible apply go_op)
           | (with_reducible apply go_next)
           | ((with_reducible (show evOp _ _ _ _ _ _)); first
             | (((with_reducible apply go_mv_bool); rfl; rfl))
             | ((with_reducible apply go_as))
             | ((with_reducible (show evOp _ (.load _ _) _ _ _ _)) ; first | ((with_reducible apply go_ld_agg); rfl; rfl; rfl; rfl) | ((with_reducible apply go_load); rfl; rfl; rfl))
             | (((with_reducible apply go_bx_agg); rfl; rfl; (exact Nat.le_of_ble_eq_true rfl); rfl; rfl)))
           | ((with_reducible (show evOps _ _ _ _ _ _)); first
             | (with_reducible apply go_nil)
             | ((with_reducible apply go_pre); rfl))
           | ((with_reducible (show evG _ _ _ _ _)); first
             | (with_reducible apply go_seq)
             | (with_reducible apply go_region)
             | ((with_reducible apply go_order); kernel_rfl; rfl))
           | (with_reducible apply go_kseq)
  refine go_clo_str (d1 := .agg (encStd x)) rfl rfl (fun _ _ => rfl) hn rfl ?_
  repeat' first
           | (with_reducible apply go_op)
           | (with_reducible apply go_next)
           | ((with_reducible (show evOp _ _ _ _ _ _)); first
             | (((with_reducible apply go_mv_bool); rfl; rfl))
             | ((with_reducible apply go_as))
             | (((with_reducible apply go_load); rfl; rfl; rfl))
             | (((with_reducible apply go_bin); rfl; rfl)))
           | ((with_reducible (show evOps _ _ _ _ _ _)); first
             | (with_reducible apply go_nil)
             | ((with_reducible apply go_pre); rfl)
             | (with_reducible apply go_pre_nil)
             | ((with_reducible apply go_suf); rfl)
             | (with_reducible apply go_suf_nil))
           | ((with_reducible (show evG _ _ _ _ _)); first
             | (with_reducible apply go_ret))
           | (with_reducible apply go_kseq)
           | (with_reducible apply go_ksuf)
           | ((with_reducible apply end_bool); rfl)
           | (with_reducible rfl)
theorem c86T (l : List Standard) (hl : l.length < 1000000000000) (g g' : FuncId) (nm : Standard → ByteArray) (er : Standard → Int) (hn : ∀ x, Contract Tryz.prog g [.agg (encStd x)] (.ret (.str (nm x)))) (he : ∀ x ∈ l, Contract Tryz.prog g' [.agg (encStd x)] (.ret (.int .i64 (er x)))) :
    Contract Tryz.prog 52 [.sl (l.map encStd), .clo (.func g) [] [], .clo (.func g') [] []] (.ret (.int .i64 (eachE nm er l))) := by
  refine contract_of mix Tryz.func52 rfl rfl (by rw [Tryz.ntmps52]; exact Nat.le_of_ble_eq_true rfl) ?_; rw [Tryz.results52, Tryz.ntmps52]; simp only [argsE, Nat.reduceAdd]
  repeat' first
           | (with_reducible apply go_op)
           | (with_reducible apply go_next)
           | ((with_reducible (show evOp _ _ _ _ _ _)); first
             | ((with_reducible (show evOp _ (.move _) _ _ _ _)) ; first | ((with_reducible apply go_mv_int); rfl; rfl) | ((with_reducible apply go_mv_sl); rfl; rfl))
             | ((with_reducible apply go_as))
             | (((with_reducible apply go_len); rfl; rfl))
             | (((with_reducible apply go_bx_clo); rfl; rfl)))
           | ((with_reducible (show evOps _ _ _ _ _ _)); first
             | (with_reducible apply go_nil))
           | ((with_reducible (show evG _ _ _ _ _)); first
             | (with_reducible apply go_seq)
             | (with_reducible apply go_region)
             | (with_reducible apply go_block))
           | (with_reducible apply go_kseq)
  refine go_count l.length (fun i => ⟨[(13, .int .i64 i), (12, .int .i64 l.length), (11, .sl (l.map encStd)), (0, .sl (l.map encStd)), (2, .clo (.func g') [] []), (4, .op 0 0 0)], [(0, ⟨1, false, [[.clo (.func g) [] []]]⟩)], 32, 36⟩) (fun i => ∀ j, j < i → stepE nm er l j = 0) (entails_eq (k := 0) (ns := []) (ks := [13, 12, 11, 0, 2, 4]) [(0, 0)] rfl (by simp) rfl) (by omega) ?_
  intro i hi hC
  repeat' first
           | (with_reducible apply go_op)
           | (with_reducible apply go_next)
           | ((with_reducible (show evOp _ _ _ _ _ _)); first
             | (((with_reducible apply go_mv_int); rfl; rfl))
             | ((with_reducible apply go_as))
             | ((with_reducible (show evOp _ (.load _ _) _ _ _ _)) ; first | ((with_reducible apply go_ld_ptr); rfl; rfl; rfl) | ((with_reducible apply go_ld_agg); rfl; rfl; rfl; rfl) | ((with_reducible apply go_ld_one); rfl; rfl; rfl))
             | (((with_reducible apply go_index_nat); rfl; rfl; (with_reducible rfl); (intro; rfl); rfl; omega; (intro hlt)))
             | (((with_reducible apply go_cmp); rfl; rfl; rfl; rfl))
             | (((with_reducible apply go_st_agg); rfl; rfl; rfl; rfl; rfl; rfl; rfl))
             | (((with_reducible apply go_alloc); rfl; rfl; rfl)))
           | ((with_reducible (show evOps _ _ _ _ _ _)); first
             | (with_reducible apply go_nil))
           | ((with_reducible (show evG _ _ _ _ _)); first
             | (with_reducible apply go_seq)
             | (with_reducible apply go_region)
             | (((with_reducible apply go_cond); rfl) <;> (intro h; simp only [h]; try simp only [decide_eq_true_eq, decide_eq_false_iff_not, Bool.not_eq_true', Bool.not_eq_false', Bool.not_true, Bool.not_false] at h; try exact absurd trivial h))
             | (with_reducible apply go_ret)
             | (with_reducible apply go_skipc)
             | (with_reducible apply go_block)
             | (with_reducible apply go_exit))
           | (with_reducible apply go_kseq)
           | (with_reducible apply go_kblock_exit)
           | (with_reducible apply go_kseq_exit)
           | ((with_reducible apply end_int); rfl)
  refine go_clo_str (d1 := .agg (encStd l[i])) rfl rfl (fun _ _ => rfl) (hn _) rfl ?_
  repeat' first
           | (with_reducible apply go_op)
           | (with_reducible apply go_next)
           | ((with_reducible (show evOp _ _ _ _ _ _)); first
             | (((with_reducible apply go_ld_one); rfl; rfl; rfl))
             | (((with_reducible apply go_st_str); rfl; rfl; rfl))
             | (((with_reducible apply go_alloc); rfl; rfl; rfl)))
           | ((with_reducible (show evOps _ _ _ _ _ _)); first
             | (with_reducible apply go_nil))
           | ((with_reducible (show evG _ _ _ _ _)); first
             | (with_reducible apply go_seq)
             | (with_reducible apply go_region))
           | (with_reducible apply go_kseq)
  refine go_fn_bool (args' := [.str (nm l[i])]) rfl (c137 _) rfl ?_
  repeat' first
           | (with_reducible apply go_op)
           | (with_reducible apply go_next)
           | ((with_reducible (show evOp _ _ _ _ _ _)); first
             | ((with_reducible (show evOp _ (.move _) _ _ _ _)) ; first | ((with_reducible apply go_mv_int); rfl; rfl) | ((with_reducible apply go_mv_sl); rfl; rfl))
             | ((with_reducible apply go_as))
             | (((with_reducible apply go_take_sl); rfl; rfl; (intro; rfl); rfl; omega))
             | (((with_reducible apply go_not); rfl; rfl))
             | (((with_reducible apply go_fn2); rfl; rfl; rfl)))
           | ((with_reducible (show evOps _ _ _ _ _ _)); first
             | (with_reducible apply go_nil))
           | ((with_reducible (show evG _ _ _ _ _)); first
             | (with_reducible apply go_seq)
             | (with_reducible apply go_region)
             | (((with_reducible apply go_cond); rfl) <;> (intro h; simp only [h]; try simp only [decide_eq_true_eq, decide_eq_false_iff_not, Bool.not_eq_true', Bool.not_eq_false', Bool.not_true, Bool.not_false] at h; try exact absurd trivial h))
             | (with_reducible apply go_ret)
             | (with_reducible apply go_skipc))
           | (with_reducible apply go_kseq)
           | (with_reducible apply go_kseq_ret)
           | (with_reducible apply go_kblock_ret)
           | ((with_reducible apply end_int); rfl)
  · have h2 : i < l.length := by omega
    exact each_at h2 hC (by simp [stepE, h2, h]) (by decide)
  refine go_fn_bool (args' := [.sl ((l.take i).map encStd), .clo (.func 88) [] [.ptr [.clo (.func g) [] []], .ptr [.str (nm l[i])]]]) rfl (c140T (l.take i) (by simp; omega) 88 _ (fun _ _ => rfl) rfl (fun y => decide (nm y = nm l[i])) fun y _ => c141T y _ _ g (hn y)) rfl ?_
  repeat' first
           | (with_reducible apply go_op)
           | (with_reducible apply go_next)
           | ((with_reducible (show evOp _ _ _ _ _ _)); first
             | ((with_reducible (show evOp _ (.move _) _ _ _ _)) ; first | ((with_reducible apply go_mv_int); rfl; rfl) | ((with_reducible apply go_mv_clo); rfl; rfl))
             | ((with_reducible apply go_as))
             | (((with_reducible apply go_ld_agg); rfl; rfl; rfl; rfl)))
           | ((with_reducible (show evOps _ _ _ _ _ _)); first
             | (with_reducible apply go_nil))
           | ((with_reducible (show evG _ _ _ _ _)); first
             | (with_reducible apply go_seq)
             | (with_reducible apply go_region)
             | (((with_reducible apply go_cond); rfl) <;> (intro h; simp only [h]; try simp only [decide_eq_true_eq, decide_eq_false_iff_not, Bool.not_eq_true', Bool.not_eq_false', Bool.not_true, Bool.not_false] at h; try exact absurd trivial h))
             | (with_reducible apply go_ret)
             | (with_reducible apply go_skipc))
           | (with_reducible apply go_kseq)
           | (with_reducible apply go_kseq_ret)
           | (with_reducible apply go_kblock_ret)
           | ((with_reducible apply end_int); rfl)
  · rename_i h1 _
    have h2 : i < l.length := by omega
    exact each_at h2 hC (by simp only [stepE, List.getElem?_eq_getElem h2, h, *]; simp) (by decide)
  refine go_clo_int (d1 := .agg (encStd l[i])) rfl rfl (fun _ _ => rfl) (he _ (List.getElem_mem _)) rfl ?_
  repeat' first
           | (with_reducible apply go_op)
           | (with_reducible apply go_next)
           | ((with_reducible (show evOp _ _ _ _ _ _)); first
             | (((with_reducible apply go_mv_int); rfl; rfl))
             | ((with_reducible apply go_as))
             | ((with_reducible (show evOp _ (.binOp _ _ _ _ _) _ _ _ _)) ; first | ((with_reducible apply go_cmp); rfl; rfl; rfl; rfl) | ((with_reducible apply go_add); rfl; rfl; rfl; omega)))
           | ((with_reducible (show evOps _ _ _ _ _ _)); first
             | (with_reducible apply go_nil))
           | ((with_reducible (show evG _ _ _ _ _)); first
             | (with_reducible apply go_seq)
             | (with_reducible apply go_region)
             | (((with_reducible apply go_cond); rfl) <;> (intro h; simp only [h]; try simp only [decide_eq_true_eq, decide_eq_false_iff_not, Bool.not_eq_true', Bool.not_eq_false', Bool.not_true, Bool.not_false] at h; try exact absurd trivial h))
             | (with_reducible apply go_ret)
             | (with_reducible apply go_skipc))
           | (with_reducible apply go_kseq)
           | (with_reducible apply go_kseq_ret)
           | (with_reducible apply go_kblock)
           | (with_reducible apply go_kblock_ret)
           | ((with_reducible apply end_int); rfl)
  · have h2 : i < l.length := by omega
    exact each_at h2 hC (by simp only [stepE, List.getElem?_eq_getElem h2, *]; simp) h
  · have h2 : i < l.length := by omega
    refine ⟨h2, fun j hj => ?_, entails_eq (k := 0) (ns := []) (ks := [13, 12, 11, 0, 2, 4]) [(0, 0)] rfl (by simp) rfl⟩
    rcases Nat.lt_succ_iff_lt_or_eq.1 hj with h' | rfl
    · exact hC j h'
    · simp only [stepE, List.getElem?_eq_getElem h2, *]; simp
  · refine (firstE_zero fun j hj => hC j (by omega)).symm

/-- The error of standards. -/
def stdsE (l : List Standard) : Int := eachE (fun t => t.sub) (fun t => limE t.limits) l
theorem c_stds (l : List Standard) (hl : l.length < 1000000000000) (hls : ∀ x ∈ l, x.limits.length ≤ 9223372036854775807) :
    Contract Tryz.prog 52 [.sl (l.map encStd), .clo (.func 53) [] [], .clo (.func 54) [] []] (.ret (.int .i64 (stdsE l))) :=
  c86T l hl _ _ _ _ c_substance fun x hx => c_limitsErr x (hls x hx)
theorem stds_at {l : List Standard} {i : Nat} {e : Int} (hi : i < l.length) (hC : ∀ j, j < i → stepE (fun t : Standard => t.sub) (fun t => limE t.limits) l j = 0) (h : stepE (fun t : Standard => t.sub) (fun t => limE t.limits) l i = e) (he : e ≠ 0) : e = stdsE l := each_at hi hC h he
theorem stds_step {l : List Standard} {i : Nat} (hC : ∀ j, j < i → stepE (fun t : Standard => t.sub) (fun t => limE t.limits) l j = 0) (h : stepE (fun t : Standard => t.sub) (fun t => limE t.limits) l i = 0) : ∀ j, j < i + 1 → stepE (fun t : Standard => t.sub) (fun t => limE t.limits) l j = 0 := fun j hj => by
  rcases Nat.lt_succ_iff_lt_or_eq.1 hj with h' | rfl
  · exact hC j h'
  · exact h
theorem stds_is {l : List Standard} {i : Nat} (h : i < l.length) : stepE (fun t : Standard => t.sub) (fun t => limE t.limits) l i = if nameOK l[i].sub = false then 4 else if ((l.take i).any fun y => decide (y.sub = l[i].sub)) = true then 5 else limE l[i].limits := by
  simp only [stepE, List.getElem?_eq_getElem h]
theorem c_checkStds (l : List Standard) (hl : l.length < 1000000000000) (hls : ∀ x ∈ l, x.limits.length ≤ 9223372036854775807) :
    Contract Tryz.prog 30 [.sl (l.map encStd)] (.ret (.int .i64 (if 8 < l.length then 8 else stdsE l))) := by
  by_cases hn : 8 < l.length
  · rw [if_pos hn]
    refine contract_of mix Tryz.func30 rfl rfl (by rw [Tryz.ntmps30]; exact Nat.le_of_ble_eq_true rfl) ?_; rw [Tryz.results30, Tryz.ntmps30]; simp only [argsE, Nat.reduceAdd]
    repeat' first
           | (with_reducible apply go_op)
           | (with_reducible apply go_next)
           | ((with_reducible (show evOp _ _ _ _ _ _)); first
             | ((with_reducible (show evOp _ (.move _) _ _ _ _)) ; first | ((with_reducible apply go_mv_int); rfl; rfl) | ((with_reducible apply go_mv_sl); rfl; rfl))
             | ((with_reducible apply go_as))
             | (((with_reducible apply go_cmp); rfl; rfl; rfl; rfl))
             | (((with_reducible apply go_len); rfl; rfl)))
           | ((with_reducible (show evOps _ _ _ _ _ _)); first
             | (with_reducible apply go_nil))
           | ((with_reducible (show evG _ _ _ _ _)); first
             | (with_reducible apply go_seq)
             | (with_reducible apply go_region)
             | (((with_reducible apply go_cond); rfl) <;> (intro h; simp only [h]; try simp only [decide_eq_true_eq, decide_eq_false_iff_not, Bool.not_eq_true', Bool.not_eq_false', Bool.not_true, Bool.not_false] at h; try exact absurd trivial h))
             | (with_reducible apply go_ret)
             | (with_reducible apply go_skipc)
             | (with_reducible apply go_block))
           | (with_reducible apply go_kseq)
           | (with_reducible apply go_kseq_ret)
           | ((with_reducible apply end_int); rfl)
           | (with_reducible rfl)
    all_goals (exfalso; omega)
  · rw [if_neg hn]
    refine contract_of mix Tryz.func30 rfl rfl (by rw [Tryz.ntmps30]; exact Nat.le_of_ble_eq_true rfl) ?_; rw [Tryz.results30, Tryz.ntmps30]; simp only [argsE, Nat.reduceAdd]
    repeat' first
           | (with_reducible apply go_op)
           | (with_reducible apply go_next)
           | ((with_reducible (show evOp _ _ _ _ _ _)); first
             | ((with_reducible (show evOp _ (.move _) _ _ _ _)) ; first | ((with_reducible apply go_mv_int); rfl; rfl) | ((with_reducible apply go_mv_sl); rfl; rfl))
             | ((with_reducible apply go_as))
             | (((with_reducible apply go_cmp); rfl; rfl; rfl; rfl))
             | (((with_reducible apply go_len); rfl; rfl)))
           | ((with_reducible (show evOps _ _ _ _ _ _)); first
             | (with_reducible apply go_nil))
           | ((with_reducible (show evG _ _ _ _ _)); first
             | (with_reducible apply go_seq)
             | (with_reducible apply go_region)
             | (((with_reducible apply go_cond); rfl) <;> (intro h; simp only [h]; try simp only [decide_eq_true_eq, decide_eq_false_iff_not, Bool.not_eq_true', Bool.not_eq_false', Bool.not_true, Bool.not_false] at h; try exact absurd trivial h))
             | (with_reducible apply go_ret)
             | (with_reducible apply go_skipc)
             | (with_reducible apply go_block))
           | (with_reducible apply go_kseq)
           | (with_reducible apply go_kseq_ret)
           | ((with_reducible apply end_int); rfl)
    all_goals try (exfalso; omega)
    refine go_count l.length (fun i => ⟨[(3, .int .i64 i), (0, .sl (l.map encStd))], [], 0, 46⟩) (fun i => ∀ j, j < i → stepE (fun t : Standard => t.sub) (fun t => limE t.limits) l j = 0) (entails_eq (k := 0) (ns := []) (ks := [3, 0]) [] rfl (by simp) rfl) (fun j hj => absurd hj (by omega)) ?_
    intro i hi hC
    by_cases hlt : i < l.length
    · have hs := stds_is hlt
      have hlim := hls l[i] (List.getElem_mem hlt)
      repeat' first
           | (with_reducible apply go_op)
           | (with_reducible apply go_next)
           | ((with_reducible (show evOp _ _ _ _ _ _)); first
             | ((with_reducible (show evOp _ (.move _) _ _ _ _)) ; first | ((with_reducible apply go_mv_int); rfl; rfl) | ((with_reducible apply go_mv_sl); rfl; rfl))
             | ((with_reducible apply go_as))
             | (((with_reducible apply go_load); rfl; rfl; rfl))
             | (((with_reducible apply go_fieldAddr); rfl; rfl))
             | (((with_reducible apply go_index_nat); rfl; rfl; (with_reducible rfl); (intro; rfl); rfl; omega; (intro hlt)))
             | (((with_reducible apply go_cmp); rfl; rfl; rfl; rfl))
             | ((with_reducible (show evOp _ (.call _) _ _ _ _)) ; first | ((with_reducible apply go_len); rfl; rfl) | ((with_reducible apply go_fn_bool); rfl; (exact c83 _); rfl))
             | (((with_reducible apply go_not); rfl; rfl)))
           | ((with_reducible (show evOps _ _ _ _ _ _)); first
             | (with_reducible apply go_nil))
           | ((with_reducible (show evG _ _ _ _ _)); first
             | (with_reducible apply go_seq)
             | (with_reducible apply go_region)
             | (((with_reducible apply go_cond); rfl) <;> (intro h; simp only [h]; try simp only [decide_eq_true_eq, decide_eq_false_iff_not, Bool.not_eq_true', Bool.not_eq_false', Bool.not_true, Bool.not_false] at h; try exact absurd trivial h))
             | (with_reducible apply go_ret)
             | (with_reducible apply go_skipc)
             | (with_reducible apply go_block)
             | (with_reducible apply go_exit))
           | (with_reducible apply go_kseq)
           | (with_reducible apply go_kseq_ret)
           | (with_reducible apply go_kblock_ret)
           | (with_reducible apply go_kblock_exit)
           | (with_reducible apply go_kseq_exit)
           | ((with_reducible apply end_int); rfl)
      all_goals try exact absurd hlt (by omega)
      · exact stds_at hlt hC (by rw [hs, if_pos (by simp [*])]) (by decide)
      · have hnm : nameOK l[i].sub = true := by assumption
        refine go_count i (fun k => ⟨[(4, .int .i64 k), (3, .int .i64 i), (0, .sl (l.map encStd))], [], 32, 46⟩) (fun k => ∀ j (hj : j < k) (hj' : j < l.length), l[j].sub ≠ l[i].sub) (entails_eq (nx := 32) (k := 0) (ns := []) (ks := [4, 3, 0]) [] rfl (by simp) (by kernel_rfl)) (fun j hj => absurd hj (by omega)) ?_
        intro k hk hK
        by_cases hlk : k < i
        · have hkl : k < l.length := by omega
          repeat' first
           | (with_reducible apply go_op)
           | (with_reducible apply go_next)
           | ((with_reducible (show evOp _ _ _ _ _ _)); first
             | ((with_reducible (show evOp _ (.move _) _ _ _ _)) ; first | ((with_reducible apply go_mv_int); rfl; rfl) | ((with_reducible apply go_mv_sl); rfl; rfl))
             | ((with_reducible apply go_as))
             | ((with_reducible (show evOp _ (.load _ _) _ _ _ _)) ; first | ((with_reducible apply go_ld_ptr); rfl; rfl; rfl) | ((with_reducible apply go_load); rfl; rfl; rfl))
             | (((with_reducible apply go_fieldAddr); rfl; rfl))
             | (((with_reducible apply go_index_nat); rfl; rfl; (with_reducible rfl); (intro; rfl); rfl; omega; (intro hlt)))
             | ((with_reducible (show evOp _ (.binOp _ _ _ _ _) _ _ _ _)) ; first | ((with_reducible apply go_cmp); rfl; rfl; rfl; rfl) | ((with_reducible apply go_add); rfl; rfl; rfl; omega) | ((with_reducible apply go_bin); rfl; rfl)))
           | ((with_reducible (show evOps _ _ _ _ _ _)); first
             | (with_reducible apply go_nil)
             | ((with_reducible apply go_pre); rfl)
             | (with_reducible apply go_pre_nil)
             | ((with_reducible apply go_suf); rfl)
             | (with_reducible apply go_suf_nil))
           | ((with_reducible (show evG _ _ _ _ _)); first
             | (with_reducible apply go_seq)
             | (with_reducible apply go_region)
             | (((with_reducible apply go_cond); rfl) <;> (intro h; simp only [h]; try simp only [decide_eq_true_eq, decide_eq_false_iff_not, Bool.not_eq_true', Bool.not_eq_false', Bool.not_true, Bool.not_false] at h; try exact absurd trivial h))
             | ((with_reducible apply go_order); kernel_rfl; rfl)
             | (with_reducible apply go_ret)
             | (with_reducible apply go_skipc)
             | (with_reducible apply go_block)
             | (with_reducible apply go_exit))
           | (with_reducible apply go_kseq)
           | (with_reducible apply go_ksuf)
           | (with_reducible apply go_kseq_ret)
           | (with_reducible apply go_kblock)
           | (with_reducible apply go_kblock_ret)
           | (with_reducible apply go_kblock_exit)
           | (with_reducible apply go_kseq_exit)
           | ((with_reducible apply end_int); rfl)
          all_goals try exact absurd hlk (by omega)
          · refine stds_at (i := i) (by omega) hC (by rw [hs, if_neg (by simp [hnm]), if_pos]; exact List.any_eq_true.2 ⟨l[k], List.mem_iff_getElem.2 ⟨k, by simp; omega, by simp⟩, by simp; assumption⟩) (by decide)
          · refine ⟨hlk, fun j hj hj' => ?_, entails_eq (nx := 32) (k := 0) (ns := []) (ks := [4, 3, 0]) [] rfl (by simp) (by kernel_rfl)⟩
            rcases Nat.lt_succ_iff_lt_or_eq.1 hj with h' | rfl
            · exact hK j h' hj'
            · assumption
        · have e : k = i := by omega
          have hany : ¬ ((l.take i).any fun y => decide (y.sub = l[i].sub)) = true := fun h => by
            obtain ⟨y, hy, he⟩ := List.any_eq_true.1 h
            obtain ⟨j, hj, rfl⟩ := List.mem_iff_getElem.1 hy
            have hj2 : j < i := by simp at hj; omega
            rw [List.getElem_take] at he
            exact hK j (by omega) (by omega) (by simpa using he)
          rw [if_neg (by simp [hnm]), if_neg hany] at hs
          clear hany
          repeat' first
           | (with_reducible apply go_op)
           | (with_reducible apply go_next)
           | ((with_reducible (show evOp _ _ _ _ _ _)); first
             | ((with_reducible (show evOp _ (.move _) _ _ _ _)) ; first | ((with_reducible apply go_mv_int); rfl; rfl) | ((with_reducible apply go_mv_sl); rfl; rfl))
             | ((with_reducible apply go_as))
             | ((with_reducible (show evOp _ (.load _ _) _ _ _ _)) ; first | ((with_reducible apply go_ld_ptr); rfl; rfl; rfl) | ((with_reducible apply go_load); rfl; rfl; rfl))
             | (((with_reducible apply go_fieldAddr); rfl; rfl))
             | (((with_reducible apply go_index_nat); rfl; rfl; (with_reducible rfl); (intro; rfl); rfl; omega; (intro hlt)))
             | ((with_reducible (show evOp _ (.binOp _ _ _ _ _) _ _ _ _)) ; first | ((with_reducible apply go_cmp); rfl; rfl; rfl; rfl) | ((with_reducible apply go_add); rfl; rfl; rfl; omega) | ((with_reducible apply go_bin); rfl; rfl))
             | (((with_reducible apply go_fn_int); rfl; (exact c_checkLimits l[i] hlim); rfl)))
           | ((with_reducible (show evOps _ _ _ _ _ _)); first
             | (with_reducible apply go_nil)
             | ((with_reducible apply go_pre); rfl)
             | (with_reducible apply go_pre_nil)
             | ((with_reducible apply go_suf); rfl)
             | (with_reducible apply go_suf_nil))
           | ((with_reducible (show evG _ _ _ _ _)); first
             | (with_reducible apply go_seq)
             | (with_reducible apply go_region)
             | (((with_reducible apply go_cond); rfl) <;> (intro h; simp only [h]; try simp only [decide_eq_true_eq, decide_eq_false_iff_not, Bool.not_eq_true', Bool.not_eq_false', Bool.not_true, Bool.not_false] at h; try exact absurd trivial h))
             | ((with_reducible apply go_order); kernel_rfl; rfl)
             | (with_reducible apply go_ret)
             | (with_reducible apply go_skipc)
             | (with_reducible apply go_block)
             | (with_reducible apply go_exit))
           | (with_reducible apply go_kseq)
           | (with_reducible apply go_ksuf)
           | (with_reducible apply go_kseq_ret)
           | (with_reducible apply go_kblock)
           | (with_reducible apply go_kblock_ret)
           | (with_reducible apply go_kblock_exit)
           | (with_reducible apply go_kseq_exit)
           | ((with_reducible apply end_int); rfl)
          all_goals first
            | exact absurd hlk (by omega)
            | exact stds_at (i := i) (by omega) hC hs (by assumption)
            | exact ⟨by omega, stds_step hC (by rw [hs]; assumption), entails_eq (nx := 0) (k := 0) (ns := []) (ks := [3, 0]) [] rfl (by simp) (by kernel_rfl)⟩
            | trace_state
    · repeat' first
           | (with_reducible apply go_op)
           | (with_reducible apply go_next)
           | ((with_reducible (show evOp _ _ _ _ _ _)); first
             | ((with_reducible (show evOp _ (.move _) _ _ _ _)) ; first | ((with_reducible apply go_mv_int); rfl; rfl) | ((with_reducible apply go_mv_sl); rfl; rfl))
             | ((with_reducible apply go_as))
             | (((with_reducible apply go_load); rfl; rfl; rfl))
             | (((with_reducible apply go_fieldAddr); rfl; rfl))
             | (((with_reducible apply go_index_nat); rfl; rfl; (with_reducible rfl); (intro; rfl); rfl; omega; (intro hlt)))
             | (((with_reducible apply go_cmp); rfl; rfl; rfl; rfl))
             | (((with_reducible apply go_len); rfl; rfl)))
           | ((with_reducible (show evOps _ _ _ _ _ _)); first
             | (with_reducible apply go_nil))
           | ((with_reducible (show evG _ _ _ _ _)); first
             | (with_reducible apply go_seq)
             | (with_reducible apply go_region)
             | (((with_reducible apply go_cond); rfl) <;> (intro h; simp only [h]; try simp only [decide_eq_true_eq, decide_eq_false_iff_not, Bool.not_eq_true', Bool.not_eq_false', Bool.not_true, Bool.not_false] at h; try exact absurd trivial h))
             | (with_reducible apply go_ret)
             | (with_reducible apply go_skipc)
             | (with_reducible apply go_block)
             | (with_reducible apply go_exit))
           | (with_reducible apply go_kseq)
           | (with_reducible apply go_kblock_exit)
           | (with_reducible apply go_kseq_exit)
           | ((with_reducible apply end_int); rfl)
      all_goals first
        | exact absurd hlt (by omega)
        | exact (firstE_zero fun j hj => hC j (by omega)).symm
        | trace_state
end Go.Pv.Soil

open Go Go.Proofs Go.Pv
set_option maxHeartbeats 4000000
set_option maxRecDepth 100000
set_option linter.unusedSimpArgs false
set_option linter.unusedVariables false
namespace Go.Pv.Soil
theorem c_checkRule (num den least : Int) : Contract Tryz.prog 29 [.agg (encRule num den least)] (.ret (.int .i64 (if ruleOK num den least then 0 else 2))) := by
  refine contract_of mix Tryz.func29 rfl rfl (by rw [Tryz.ntmps29]; exact Nat.le_of_ble_eq_true rfl) ?_; rw [Tryz.results29, Tryz.ntmps29]; simp only [argsE, Nat.reduceAdd]
  repeat' first
           | (with_reducible apply go_op)
           | (with_reducible apply go_next)
           | ((with_reducible (show evOp _ _ _ _ _ _)); first
             | ((with_reducible (show evOp _ (.move _) _ _ _ _)) ; first | ((with_reducible apply go_mv_int); rfl; rfl) | ((with_reducible apply go_mv_bool); rfl; rfl))
             | ((with_reducible apply go_as))
             | (((with_reducible apply go_load_own); rfl; rfl; rfl; rfl))
             | (((with_reducible apply go_fieldAddr_own); rfl; rfl; rfl))
             | (((with_reducible apply go_fn_bool); rfl; (exact c38 _ _ _); rfl))
             | (((with_reducible apply go_not); rfl; rfl))
             | (((with_reducible apply go_pick); rfl; rfl; rfl))
             | (((with_reducible apply go_bx_agg); rfl; rfl; (exact Nat.le_of_ble_eq_true rfl); rfl; rfl)))
           | ((with_reducible (show evOps _ _ _ _ _ _)); first
             | (with_reducible apply go_nil)
             | ((with_reducible apply go_run); rfl; rfl)
             | ((with_reducible apply go_pass); rfl; rfl; rfl)
             | (((with_reducible apply go_guard); rfl) <;> (intro h; simp only [h, Bool.not_true, Bool.not_false]; (try with_reducible (refine ⟨rfl, ?_⟩)); try simp only [decide_eq_true_eq, decide_eq_false_iff_not, Bool.not_eq_true', Bool.not_eq_false', Bool.not_true, Bool.not_false] at h; try exact absurd trivial h)))
           | ((with_reducible (show evG _ _ _ _ _)); first
             | (with_reducible apply go_seq)
             | (with_reducible apply go_region)
             | ((with_reducible apply go_cond_t); rfl; rfl)
             | (((with_reducible apply go_cond); rfl) <;> (intro h; simp only [h]; try simp only [decide_eq_true_eq, decide_eq_false_iff_not, Bool.not_eq_true', Bool.not_eq_false', Bool.not_true, Bool.not_false] at h; try exact absurd trivial h))
             | (with_reducible apply go_ret)
             | (with_reducible apply go_skipc))
           | (with_reducible apply go_kseq)
           | (with_reducible apply go_kseq_ret)
           | ((with_reducible apply end_int); rfl)
  all_goals (unfold ruleOK; first | (rw [if_pos (by simp; omega)]; done) | (rw [if_neg (by simp; omega)]; done) | trace_state)
end Go.Pv.Soil

open Go Go.Proofs Go.Pv
set_option maxHeartbeats 4000000
set_option maxRecDepth 100000
set_option linter.unusedSimpArgs false
set_option linter.unusedVariables false
namespace Go.Pv.Soil
theorem scalIntV : ScalF encInt 1 := fun _ => ⟨rfl, rfl⟩
/-- The values of a substance among the first samples. -/
def valL (l : List Sample) (sub : ByteArray) (i : Nat) : List Int := ((l.take i).filter fun x => decide (x.sub = sub)).map (·.value)
theorem valL_len (l : List Sample) (sub : ByteArray) (i : Nat) : (valL l sub i).length ≤ i := by
  have h1 := List.length_filter_le (fun x : Sample => decide (x.sub = sub)) (l.take i)
  have h2 := List.length_take_le i l
  unfold valL; rw [List.length_map]; omega
theorem valL_zero (l : List Sample) (sub : ByteArray) : valL l sub 0 = [] := by simp [valL]
theorem valL_yes {l : List Sample} {sub : ByteArray} {i : Nat} (hi : i < l.length) (h : l[i].sub = sub) : valL l sub i ++ [l[i].value] = valL l sub (i + 1) := by
  unfold valL
  rw [List.take_succ_eq_append_getElem hi, List.filter_append, List.filter_cons_of_pos (by simpa using h), List.filter_nil, List.map_append, List.map_cons, List.map_nil]
theorem valL_no {l : List Sample} {sub : ByteArray} {i : Nat} (hi : i < l.length) (h : l[i].sub ≠ sub) : valL l sub i = valL l sub (i + 1) := by
  unfold valL
  rw [List.take_succ_eq_append_getElem hi, List.filter_append, List.filter_cons_of_neg (by simpa using h), List.filter_nil, List.append_nil]
/-- The class by a standard, or the error. -/
def clsR (l : List Sample) (t : Standard) (num den least : Int) : Int × Int :=
  if ((valL l t.sub l.length).length : Int) < least then (0, 11) else (((t.limits.countP fun x => decide (x ≤ rankI (valL l t.sub l.length) num den)) : Nat), 0)
theorem lim_sorted {l : List Int} (h : limE l = 0) : l.Pairwise (· < ·) ∧ l.length ≤ 5 := by
  unfold limE at h
  split at h
  · cases h
  split at h
  · cases h
  have h1 := fun i hi => firstE_all h i hi
  have h2 : ∀ i (hi : i + 1 < l.length), l[i] < l[i + 1] := fun i hi => by
    have := h1 (i + 1) hi
    rw [limStep_at hi] at this
    split at this
    · cases this
    · split at this
      · cases this
      · rename_i h3
        rw [show i + 1 - 1 = i by omega, List.getD_eq_getElem?_getD, List.getElem?_eq_getElem (show i < l.length by omega)] at h3
        simp at h3
        omega
  refine ⟨List.pairwise_iff_getElem.2 fun i j hi hj hij => ?_, by omega⟩
  induction j with
  | zero => omega
  | succ j ih =>
    rcases Nat.lt_succ_iff_lt_or_eq.1 hij with h' | rfl
    · exact Int.lt_trans (ih (by omega) h') (h2 j hj)
    · exact h2 i hj
theorem lim_count {l : List Int} (h : l.Pairwise (· < ·)) {k : Nat} {v : Int} (hk : k ≤ l.length) (h1 : ∀ j (hj : j < k) (hj' : j < l.length), l[j] ≤ v) (h2 : ∀ hk' : k < l.length, v < l[k]) : l.countP (fun x => decide (x ≤ v)) = k := by
  have e : l.countP (fun x => decide (x ≤ v)) = (l.take k).countP (fun x => decide (x ≤ v)) + (l.drop k).countP (fun x => decide (x ≤ v)) := by rw [← List.countP_append, List.take_append_drop]
  have e1 : (l.take k).countP (fun x => decide (x ≤ v)) = (l.take k).length := List.countP_eq_length.2 fun x hx => by
    obtain ⟨j, hj, rfl⟩ := List.mem_iff_getElem.1 hx
    rw [List.length_take] at hj
    rw [List.getElem_take]
    exact decide_eq_true (h1 j (by omega) (by omega))
  have e2 : (l.drop k).countP (fun x => decide (x ≤ v)) = 0 := List.countP_eq_zero.2 fun x hx => by
    obtain ⟨j, hj, rfl⟩ := List.mem_iff_getElem.1 hx
    rw [List.length_drop] at hj
    rw [List.getElem_drop]
    have h3 := h2 (by omega)
    have : l[k] ≤ l[k + j] := by
      rcases Nat.eq_zero_or_pos j with rfl | hp
      · exact Int.le_refl _
      · exact Int.le_of_lt (List.pairwise_iff_getElem.1 h k (k + j) (by omega) (by omega) (by omega))
    simp; omega
  rw [e, e1, e2, List.length_take]
  omega
theorem c_class (l : List Sample) (h60 : l.length ≤ 60) (t : Standard) (hs : t.limits.Pairwise (· < ·)) (hl5 : t.limits.length ≤ 5) (num den least : Int) (hr : ruleOK num den least = true) :
    Contract Tryz.prog 56 [.sl (l.map encSample), .agg (encStd t), .agg (encRule num den least)] (.ret (.tup [.int .i64 (clsR l t num den least).1, .int .i64 (clsR l t num den least).2])) := by
  obtain ⟨sub, lim⟩ := t
  have hrule : (1 ≤ den ∧ den ≤ 1000) ∧ (1 ≤ num ∧ num ≤ den) ∧ 1 ≤ least ∧ least ≤ 60 := of_decide_eq_true hr
  simp only [clsR] at hs hl5 ⊢
  refine contract_of mix Tryz.func56 rfl rfl (by rw [Tryz.ntmps56]; exact Nat.le_of_ble_eq_true rfl) ?_; rw [Tryz.results56, Tryz.ntmps56]; simp only [argsE, Nat.reduceAdd]
  repeat' first
           | (with_reducible apply go_op)
           | (with_reducible apply go_next)
           | ((with_reducible (show evOp _ _ _ _ _ _)); first
             | ((with_reducible (show evOp _ (.move _) _ _ _ _)) ; first | ((with_reducible apply go_mv_int); rfl; rfl) | ((with_reducible apply go_mv_sl); rfl; rfl) | ((with_reducible apply go_mv_nilsl); rfl; rfl))
             | ((with_reducible apply go_as))
             | (((with_reducible apply go_len); rfl; rfl))
             | (((with_reducible apply go_bx_agg); rfl; rfl; (exact Nat.le_of_ble_eq_true rfl); rfl; rfl)))
           | ((with_reducible (show evOps _ _ _ _ _ _)); first
             | (with_reducible apply go_nil))
           | ((with_reducible (show evG _ _ _ _ _)); first
             | (with_reducible apply go_seq)
             | (with_reducible apply go_region)
             | (with_reducible apply go_block))
           | (with_reducible apply go_kseq)
  refine go_count l.length (fun i => ⟨[(8, .os 0 0 (valL l sub i).length), (16, .int .i64 i), (14, .sl (l.map encSample)), (15, .int .i64 l.length), (4, .op 1 0 0), (5, .op 2 0 0)], [(0, ⟨1, true, (valL l sub i).map encInt⟩), (1, ⟨2, true, [encStd ⟨sub, lim⟩]⟩), (2, ⟨3, true, [encRule num den least]⟩)], 32, 57⟩) (fun i => True) (entails_eq (nx := 32) (k := 1) (ns := [(8, 0)]) (ks := [16, 14, 15, 4, 5]) [(0, 1), (32, 2)] rfl (by simp; rfl) (by rw [valL_zero]; kernel_rfl)) trivial ?_
  intro i hi _
  by_cases hlt : i < l.length
  · have hlen := valL_len l sub i
    repeat' first
           | (with_reducible apply go_op)
           | (with_reducible apply go_next)
           | ((with_reducible (show evOp _ _ _ _ _ _)); first
             | ((with_reducible (show evOp _ (.move _) _ _ _ _)) ; first | ((with_reducible apply go_mv_int); rfl; rfl) | ((with_reducible apply go_mv_os); rfl; rfl))
             | ((with_reducible (show evOp _ (.load _ _) _ _ _ _)) ; first | ((with_reducible apply go_ld_ptr); rfl; rfl; rfl) | ((with_reducible apply go_ld_agg); rfl; rfl; rfl; rfl) | ((with_reducible apply go_load_own); rfl; rfl; rfl; rfl))
             | (((with_reducible apply go_fieldAddr_own); rfl; rfl; rfl))
             | (((with_reducible apply go_index_nat); rfl; rfl; (with_reducible rfl); (intro; rfl); rfl; omega; (intro hlt)))
             | ((with_reducible (show evOp _ (.binOp _ _ _ _ _) _ _ _ _)) ; first | ((with_reducible apply go_cmp); rfl; rfl; rfl; rfl) | ((with_reducible apply go_add); rfl; rfl; rfl; omega) | ((with_reducible apply go_bin); rfl; rfl))
             | (((with_reducible apply go_st_agg); rfl; rfl; rfl; rfl; rfl; rfl; rfl))
             | (((with_reducible apply go_alloc); rfl; rfl; rfl))
             | (((with_reducible apply go_bs1_int); rfl; rfl; rfl)))
           | ((with_reducible (show evOps _ _ _ _ _ _)); first
             | (with_reducible apply go_nil))
           | ((with_reducible (show evG _ _ _ _ _)); first
             | (with_reducible apply go_seq)
             | (with_reducible apply go_region)
             | (((with_reducible apply go_cond); rfl) <;> (intro h; simp only [h]; try simp only [decide_eq_true_eq, decide_eq_false_iff_not, Bool.not_eq_true', Bool.not_eq_false', Bool.not_true, Bool.not_false] at h; try exact absurd trivial h))
             | (with_reducible apply go_skipc)
             | (with_reducible apply go_block)
             | (with_reducible apply go_exit))
           | (with_reducible apply go_kseq)
           | (with_reducible apply go_kblock)
           | (with_reducible apply go_kblock_exit)
           | (with_reducible apply go_kseq_exit)
    all_goals try first
      | exact absurd hlt (by omega)
      | (refine go_app_map (f := encInt) (a := l[i].value) (l := valL l sub i) scalIntV rfl rfl rfl rfl rfl rfl (by kernel_rfl) (by kernel_rfl) (by omega) rfl ?_)
    repeat' first
           | (with_reducible apply go_op)
           | (with_reducible apply go_next)
           | ((with_reducible (show evOp _ _ _ _ _ _)); first
             | ((with_reducible (show evOp _ (.move _) _ _ _ _)) ; first | ((with_reducible apply go_mv_int); rfl; rfl) | ((with_reducible apply go_mv_os); rfl; rfl))
             | ((with_reducible apply go_as))
             | (((with_reducible apply go_add); rfl; rfl; rfl; omega)))
           | ((with_reducible (show evOps _ _ _ _ _ _)); first
             | (with_reducible apply go_nil))
           | ((with_reducible (show evG _ _ _ _ _)); first
             | (with_reducible apply go_region))
           | (with_reducible apply go_kseq)
           | (with_reducible apply go_kblock)
    all_goals first
      | (have e := valL_yes (sub := sub) hlt (by assumption)
         have el : (valL l sub i).length + 1 = (valL l sub (i + 1)).length := by rw [← e]; simp
         refine ⟨hlt, trivial, ?_⟩
         rw [e, el]
         exact entails_eq (nx := 32) (k := 1) (ns := []) (ks := [8, 16, 14, 15, 4, 5]) [(0, 0), (1, 1), (2, 2)] rfl (by simp) (by kernel_rfl))
      | (refine ⟨hlt, trivial, ?_⟩
         rw [← valL_no (sub := sub) hlt (by assumption)]
         exact entails_eq (nx := 32) (k := 1) (ns := []) (ks := [8, 16, 14, 15, 4, 5]) [(0, 0), (1, 1), (2, 2)] rfl (by simp) (by kernel_rfl))
      | trace_state
  · have e : i = l.length := by omega
    subst e
    have hlen := valL_len l sub l.length
    generalize valL l sub l.length = V at *
    by_cases hfew : (V.length : Int) < least
    · rw [if_pos hfew]
      repeat' first
           | (with_reducible apply go_op)
           | (with_reducible apply go_next)
           | ((with_reducible (show evOp _ _ _ _ _ _)); first
             | ((with_reducible (show evOp _ (.move _) _ _ _ _)) ; first | ((with_reducible apply go_mv_int); rfl; rfl) | ((with_reducible apply go_mv_os); rfl; rfl) | ((with_reducible apply go_mv_tup); rfl; rfl))
             | ((with_reducible apply go_as))
             | ((with_reducible (show evOp _ (.load _ _) _ _ _ _)) ; first | ((with_reducible apply go_ld_ptr); rfl; rfl; rfl) | ((with_reducible apply go_ld_agg); rfl; rfl; rfl; rfl) | ((with_reducible apply go_load_own); rfl; rfl; rfl; rfl))
             | (((with_reducible apply go_fieldAddr_own); rfl; rfl; rfl))
             | (((with_reducible apply go_index_nat); rfl; rfl; (with_reducible rfl); (intro; rfl); rfl; omega; (intro hlt)))
             | ((with_reducible (show evOp _ (.binOp _ _ _ _ _) _ _ _ _)) ; first | ((with_reducible apply go_cmp); rfl; rfl; rfl; rfl) | ((with_reducible apply go_add); rfl; rfl; rfl; omega) | ((with_reducible apply go_bin); rfl; rfl))
             | (((with_reducible apply go_fn_plain); (exact purL_os rfl (by simp; try assumption) rfl); (exact c_few V num den least (by omega) hfew); rfl; (exact Nat.le_of_ble_eq_true rfl); rfl))
             | (((with_reducible apply go_st_agg); rfl; rfl; rfl; rfl; rfl; rfl; rfl))
             | (((with_reducible apply go_extract); rfl; rfl))
             | (((with_reducible apply go_alloc); rfl; rfl; rfl))
             | (((with_reducible apply go_bs1_int); rfl; rfl; rfl)))
           | ((with_reducible (show evOps _ _ _ _ _ _)); first
             | (with_reducible apply go_nil))
           | ((with_reducible (show evG _ _ _ _ _)); first
             | (with_reducible apply go_seq)
             | (with_reducible apply go_region)
             | ((with_reducible apply go_cond_t); rfl; rfl)
             | (((with_reducible apply go_cond); rfl) <;> (intro h; simp only [h]; try simp only [decide_eq_true_eq, decide_eq_false_iff_not, Bool.not_eq_true', Bool.not_eq_false', Bool.not_true, Bool.not_false] at h; try exact absurd trivial h))
             | (with_reducible apply go_ret)
             | (with_reducible apply go_skipc)
             | (with_reducible apply go_block)
             | (with_reducible apply go_exit))
           | (with_reducible apply go_kseq)
           | (with_reducible apply go_kseq_ret)
           | (with_reducible apply go_kblock)
           | (with_reducible apply go_kblock_exit)
           | (with_reducible apply go_kseq_exit)
           | ((with_reducible apply end_t2); rfl; rfl; rfl; rfl)
      all_goals first | exact absurd hlt (by omega) | rfl | (exfalso; omega) | trace_state
    · rw [if_neg hfew]
      have hcr := c_ranked V num den least (by omega) (by omega) (by omega) hrule.1 hrule.2.1
      generalize rankI V num den = v at *
      repeat' first
           | (with_reducible apply go_op)
           | (with_reducible apply go_next)
           | ((with_reducible (show evOp _ _ _ _ _ _)); first
             | ((with_reducible (show evOp _ (.move _) _ _ _ _)) ; first | ((with_reducible apply go_mv_int); rfl; rfl) | ((with_reducible apply go_mv_os); rfl; rfl) | ((with_reducible apply go_mv_tup); rfl; rfl))
             | ((with_reducible apply go_as))
             | ((with_reducible (show evOp _ (.load _ _) _ _ _ _)) ; first | ((with_reducible apply go_ld_ptr); rfl; rfl; rfl) | ((with_reducible apply go_ld_agg); rfl; rfl; rfl; rfl) | ((with_reducible apply go_load_own); rfl; rfl; rfl; rfl))
             | (((with_reducible apply go_fieldAddr_own); rfl; rfl; rfl))
             | (((with_reducible apply go_index_nat); rfl; rfl; (with_reducible rfl); (intro; rfl); rfl; omega; (intro hlt)))
             | ((with_reducible (show evOp _ (.binOp _ _ _ _ _) _ _ _ _)) ; first | ((with_reducible apply go_cmp); rfl; rfl; rfl; rfl) | ((with_reducible apply go_add); rfl; rfl; rfl; omega) | ((with_reducible apply go_bin); rfl; rfl))
             | (((with_reducible apply go_fn_plain); (exact purL_os rfl (by simp; try assumption) rfl); (exact hcr); rfl; (exact Nat.le_of_ble_eq_true rfl); rfl))
             | (((with_reducible apply go_st_agg); rfl; rfl; rfl; rfl; rfl; rfl; rfl))
             | (((with_reducible apply go_extract); rfl; rfl))
             | (((with_reducible apply go_alloc); rfl; rfl; rfl))
             | (((with_reducible apply go_bs1_int); rfl; rfl; rfl)))
           | ((with_reducible (show evOps _ _ _ _ _ _)); first
             | (with_reducible apply go_nil))
           | ((with_reducible (show evG _ _ _ _ _)); first
             | (with_reducible apply go_seq)
             | (with_reducible apply go_region)
             | ((with_reducible apply go_cond_f); rfl; rfl)
             | (((with_reducible apply go_cond); rfl) <;> (intro h; simp only [h]; try simp only [decide_eq_true_eq, decide_eq_false_iff_not, Bool.not_eq_true', Bool.not_eq_false', Bool.not_true, Bool.not_false] at h; try exact absurd trivial h))
             | (with_reducible apply go_skipc)
             | (with_reducible apply go_block)
             | (with_reducible apply go_exit))
           | (with_reducible apply go_kseq)
           | (with_reducible apply go_kblock)
           | (with_reducible apply go_kblock_exit)
           | (with_reducible apply go_kseq_exit)
      all_goals try exact absurd hlt (by omega)
      refine go_count lim.length (fun k => ⟨[(13, .int .i64 k), (4, .op 0 0 0), (11, .int .i64 v)], [(0, ⟨2, true, [encStd ⟨sub, lim⟩]⟩)], 32, 57⟩) (fun k => ∀ j (hj : j < k) (hj' : j < lim.length), lim[j] ≤ v) (entails_eq (nx := 32) (k := 1) (ns := []) (ks := [13, 4, 11]) [(1, 0)] rfl (by simp) (by kernel_rfl)) (fun j hj => absurd hj (by omega)) ?_
      intro k hk hK
      by_cases hlk : k < lim.length
      · repeat' first
           | (with_reducible apply go_op)
           | (with_reducible apply go_next)
           | ((with_reducible (show evOp _ _ _ _ _ _)); first
             | ((with_reducible (show evOp _ (.move _) _ _ _ _)) ; first | ((with_reducible apply go_mv_int); rfl; rfl) | ((with_reducible apply go_mv_bool); rfl; rfl))
             | ((with_reducible apply go_as))
             | ((with_reducible (show evOp _ (.load _ _) _ _ _ _)) ; first | ((with_reducible apply go_load); rfl; rfl; rfl) | ((with_reducible apply go_load_own); rfl; rfl; rfl; rfl))
             | (((with_reducible apply go_fieldAddr_own); rfl; rfl; rfl))
             | (((with_reducible apply go_index_nat); rfl; rfl; (with_reducible rfl); (intro; rfl); rfl; omega; (intro hlt)))
             | ((with_reducible (show evOp _ (.binOp _ _ _ _ _) _ _ _ _)) ; first | ((with_reducible apply go_cmp); rfl; rfl; rfl; rfl) | ((with_reducible apply go_add); rfl; rfl; rfl; omega))
             | (((with_reducible apply go_len); rfl; rfl))
             | (((with_reducible apply go_pick); rfl; rfl; rfl)))
           | ((with_reducible (show evOps _ _ _ _ _ _)); first
             | (with_reducible apply go_nil)
             | ((with_reducible apply go_run); rfl; rfl)
             | ((with_reducible apply go_pass); rfl; rfl; rfl)
             | (((with_reducible apply go_guard); rfl) <;> (intro h; simp only [h, Bool.not_true, Bool.not_false]; (try with_reducible (refine ⟨rfl, ?_⟩)); try simp only [decide_eq_true_eq, decide_eq_false_iff_not, Bool.not_eq_true', Bool.not_eq_false', Bool.not_true, Bool.not_false] at h; try exact absurd trivial h)))
           | ((with_reducible (show evG _ _ _ _ _)); first
             | (with_reducible apply go_seq)
             | (with_reducible apply go_region)
             | ((with_reducible apply go_cond_f); rfl; rfl)
             | (((with_reducible apply go_cond); rfl) <;> (intro h; simp only [h]; try simp only [decide_eq_true_eq, decide_eq_false_iff_not, Bool.not_eq_true', Bool.not_eq_false', Bool.not_true, Bool.not_false] at h; try exact absurd trivial h))
             | (with_reducible apply go_ret)
             | (with_reducible apply go_skipc)
             | (with_reducible apply go_block)
             | (with_reducible apply go_exit))
           | (with_reducible apply go_kseq)
           | (with_reducible apply go_kblock)
           | (with_reducible apply go_kblock_exit)
           | (with_reducible apply go_kseq_exit)
           | ((with_reducible apply end_t2); rfl; rfl; rfl; rfl)
        all_goals first
          | exact absurd hlk (by omega)
          | (refine ⟨by omega, fun j hj hj' => ?_, entails_eq (nx := 32) (k := 1) (ns := []) (ks := [13, 4, 11]) [(0, 0)] rfl (by simp) (by kernel_rfl)⟩
             rcases Nat.lt_succ_iff_lt_or_eq.1 hj with h' | rfl
             · exact hK j h' hj'
             · assumption)
          | (rw [lim_count hs hk hK fun h => by omega]; rfl)
          | trace_state
      · repeat' first
           | (with_reducible apply go_op)
           | (with_reducible apply go_next)
           | ((with_reducible (show evOp _ _ _ _ _ _)); first
             | ((with_reducible (show evOp _ (.move _) _ _ _ _)) ; first | ((with_reducible apply go_mv_int); rfl; rfl) | ((with_reducible apply go_mv_bool); rfl; rfl))
             | ((with_reducible apply go_as))
             | ((with_reducible (show evOp _ (.load _ _) _ _ _ _)) ; first | ((with_reducible apply go_load); rfl; rfl; rfl) | ((with_reducible apply go_load_own); rfl; rfl; rfl; rfl))
             | (((with_reducible apply go_fieldAddr_own); rfl; rfl; rfl))
             | (((with_reducible apply go_index_nat); rfl; rfl; (with_reducible rfl); (intro; rfl); rfl; omega; (intro hlt)))
             | ((with_reducible (show evOp _ (.binOp _ _ _ _ _) _ _ _ _)) ; first | ((with_reducible apply go_cmp); rfl; rfl; rfl; rfl) | ((with_reducible apply go_add); rfl; rfl; rfl; omega))
             | (((with_reducible apply go_len); rfl; rfl))
             | (((with_reducible apply go_pick); rfl; rfl; rfl)))
           | ((with_reducible (show evOps _ _ _ _ _ _)); first
             | (with_reducible apply go_nil)
             | ((with_reducible apply go_run); rfl; rfl)
             | ((with_reducible apply go_pass); rfl; rfl; rfl)
             | (((with_reducible apply go_guard); rfl) <;> (intro h; simp only [h, Bool.not_true, Bool.not_false]; (try with_reducible (refine ⟨rfl, ?_⟩)); try simp only [decide_eq_true_eq, decide_eq_false_iff_not, Bool.not_eq_true', Bool.not_eq_false', Bool.not_true, Bool.not_false] at h; try exact absurd trivial h)))
           | ((with_reducible (show evG _ _ _ _ _)); first
             | (with_reducible apply go_seq)
             | (with_reducible apply go_region)
             | ((with_reducible apply go_cond_f); rfl; rfl)
             | (((with_reducible apply go_cond); rfl) <;> (intro h; simp only [h]; try simp only [decide_eq_true_eq, decide_eq_false_iff_not, Bool.not_eq_true', Bool.not_eq_false', Bool.not_true, Bool.not_false] at h; try exact absurd trivial h))
             | (with_reducible apply go_ret)
             | (with_reducible apply go_skipc)
             | (with_reducible apply go_block)
             | (with_reducible apply go_exit))
           | (with_reducible apply go_kseq)
           | (with_reducible apply go_kblock)
           | (with_reducible apply go_kblock_exit)
           | (with_reducible apply go_kseq_exit)
           | ((with_reducible apply end_t2); rfl; rfl; rfl; rfl)
        all_goals first
          | exact absurd hlk (by omega)
          | (rw [lim_count hs hk hK fun h => by omega]; rfl)
          | trace_state
end Go.Pv.Soil

open Go Go.Proofs Go.Pv
set_option maxHeartbeats 4000000
set_option maxRecDepth 100000
set_option linter.unusedSimpArgs false
set_option linter.unusedVariables false
namespace Go.Pv.Soil
def cntL (l : List Int) (v : Int) (k : Nat) : Nat := (l.take k).countP fun x => decide (x ≤ v)
theorem cntL_step {l : List Int} {v : Int} {i : Nat} (h : i < l.length) : cntL l v (i + 1) = if l[i] ≤ v then cntL l v i + 1 else cntL l v i := by
  unfold cntL
  rw [List.take_succ_eq_append_getElem h, List.countP_append, List.countP_cons, List.countP_nil]
  by_cases hc : l[i] ≤ v
  · rw [if_pos (by simpa using hc), if_pos hc]
  · rw [if_neg (by simpa using hc), if_neg hc]; rfl
theorem cntL_le {l : List Int} {v : Int} {i : Nat} : cntL l v i ≤ i := by
  unfold cntL
  exact Nat.le_trans List.countP_le_length (by rw [List.length_take]; omega)
/-- The class by a standard, or the error, of whatever input. -/
def classR (l : List Sample) (t : Standard) (num den least : Int) : Int × Int :=
  if samplesE l ≠ 0 then (0, samplesE l) else if stdsE [t] ≠ 0 then (0, stdsE [t]) else if ruleOK num den least = false then (0, 2) else clsR l t num den least
theorem std_one {t : Standard} (h : stdsE [t] = 0) : t.limits.Pairwise (· < ·) ∧ t.limits.length ≤ 5 := by
  have h1 := firstE_all h 0 (by simp)
  rw [stds_is (l := [t]) (i := 0) (by simp)] at h1
  simp only [List.getElem_cons_zero] at h1
  split at h1
  · cases h1
  split at h1
  · cases h1
  exact lim_sorted h1
theorem samples60 {l : List Sample} (h : samplesE l = 0) : l.length ≤ 60 := by
  unfold samplesE at h
  split at h
  · cases h
  · omega
theorem c_Class (l : List Sample) (hl : l.length < 1000000000000) (t : Standard) (hlt : t.limits.length ≤ 9223372036854775807) (num den least : Int) :
    Contract Tryz.prog 26 [.sl (l.map encSample), .agg (encStd t), .agg (encRule num den least)] (.ret (.tup [.int .i64 (classR l t num den least).1, .int .i64 (classR l t num den least).2])) := by
  have h1 := c112 l hl
  have h2 := c_stds [t] (by simp) (by simpa using hlt)
  have h3 := c_ruleErr num den least
  unfold classR
  by_cases hs : samplesE l = 0
  rotate_left
  · rw [if_pos hs]
    refine contract_of mix Tryz.func26 rfl rfl (by rw [Tryz.ntmps26]; exact Nat.le_of_ble_eq_true rfl) ?_; rw [Tryz.results26, Tryz.ntmps26]; simp only [argsE, Nat.reduceAdd]
    repeat' first
           | (with_reducible apply go_op)
           | (with_reducible apply go_next)
           | ((with_reducible (show evOp _ _ _ _ _ _)); first
             | ((with_reducible (show evOp _ (.move _) _ _ _ _)) ; first | ((with_reducible apply go_mv_int); rfl; rfl) | ((with_reducible apply go_mv_sl); rfl; rfl))
             | ((with_reducible apply go_as))
             | (((with_reducible apply go_ld_agg); rfl; rfl; rfl; rfl))
             | (((with_reducible apply go_cmp); rfl; rfl; rfl; rfl))
             | (((with_reducible apply go_fn_int); rfl; (exact h1); rfl))
             | (((with_reducible apply go_bx_agg); rfl; rfl; (exact Nat.le_of_ble_eq_true rfl); rfl; rfl))
             | (((with_reducible apply go_bs1_agg); rfl; rfl; rfl; rfl; rfl; rfl)))
           | ((with_reducible (show evOps _ _ _ _ _ _)); first
             | (with_reducible apply go_nil))
           | ((with_reducible (show evG _ _ _ _ _)); first
             | (with_reducible apply go_seq)
             | (with_reducible apply go_region)
             | (((with_reducible apply go_cond); rfl) <;> (intro h; simp only [h]; try simp only [decide_eq_true_eq, decide_eq_false_iff_not, Bool.not_eq_true', Bool.not_eq_false', Bool.not_true, Bool.not_false] at h; try exact absurd trivial h))
             | (with_reducible apply go_ret)
             | (with_reducible apply go_skipc))
           | (with_reducible apply go_kseq)
           | (with_reducible apply go_kseq_ret)
           | ((with_reducible apply end_t2); rfl; rfl; rfl; rfl)
    all_goals first | rfl | (exfalso; omega) | trace_state
  rw [if_neg (by omega)]
  rw [hs] at h1
  by_cases ht : stdsE [t] = 0
  rotate_left
  · rw [if_pos ht]
    refine contract_of mix Tryz.func26 rfl rfl (by rw [Tryz.ntmps26]; exact Nat.le_of_ble_eq_true rfl) ?_; rw [Tryz.results26, Tryz.ntmps26]; simp only [argsE, Nat.reduceAdd]
    repeat' first
           | (with_reducible apply go_op)
           | (with_reducible apply go_next)
           | ((with_reducible (show evOp _ _ _ _ _ _)); first
             | ((with_reducible (show evOp _ (.move _) _ _ _ _)) ; first | ((with_reducible apply go_mv_int); rfl; rfl) | ((with_reducible apply go_mv_sl); rfl; rfl))
             | ((with_reducible apply go_as))
             | (((with_reducible apply go_ld_agg); rfl; rfl; rfl; rfl))
             | (((with_reducible apply go_cmp); rfl; rfl; rfl; rfl))
             | (((with_reducible apply go_fn_int); rfl; (exact h1); rfl))
             | (((with_reducible apply go_bx_agg); rfl; rfl; (exact Nat.le_of_ble_eq_true rfl); rfl; rfl))
             | (((with_reducible apply go_bs1_agg); rfl; rfl; rfl; rfl; rfl; rfl)))
           | ((with_reducible (show evOps _ _ _ _ _ _)); first
             | (with_reducible apply go_nil))
           | ((with_reducible (show evG _ _ _ _ _)); first
             | (with_reducible apply go_seq)
             | (with_reducible apply go_region)
             | ((with_reducible apply go_cond_f); rfl; rfl)
             | (with_reducible apply go_skipc))
           | (with_reducible apply go_kseq)
    all_goals try (exfalso; omega)
    refine go_fn_int (args' := [.sl ([t].map encStd), .clo (.func 53) [] [], .clo (.func 54) [] []]) rfl h2 rfl ?_
    repeat' first
           | (with_reducible apply go_op)
           | (with_reducible apply go_next)
           | ((with_reducible (show evOp _ _ _ _ _ _)); first
             | (((with_reducible apply go_mv_int); rfl; rfl))
             | ((with_reducible apply go_as))
             | (((with_reducible apply go_ld_agg); rfl; rfl; rfl; rfl))
             | (((with_reducible apply go_cmp); rfl; rfl; rfl; rfl)))
           | ((with_reducible (show evOps _ _ _ _ _ _)); first
             | (with_reducible apply go_nil))
           | ((with_reducible (show evG _ _ _ _ _)); first
             | (with_reducible apply go_seq)
             | (with_reducible apply go_region)
             | (((with_reducible apply go_cond); rfl) <;> (intro h; simp only [h]; try simp only [decide_eq_true_eq, decide_eq_false_iff_not, Bool.not_eq_true', Bool.not_eq_false', Bool.not_true, Bool.not_false] at h; try exact absurd trivial h))
             | (with_reducible apply go_ret)
             | (with_reducible apply go_skipc))
           | (with_reducible apply go_kseq)
           | (with_reducible apply go_kseq_ret)
           | ((with_reducible apply end_t2); rfl; rfl; rfl; rfl)
    all_goals first | rfl | (exfalso; omega) | trace_state
  rw [if_neg (by omega)]
  rw [ht] at h2
  cases hr : ruleOK num den least
  · rw [if_pos rfl]
    rw [hr, if_neg (by simp)] at h3
    refine contract_of mix Tryz.func26 rfl rfl (by rw [Tryz.ntmps26]; exact Nat.le_of_ble_eq_true rfl) ?_; rw [Tryz.results26, Tryz.ntmps26]; simp only [argsE, Nat.reduceAdd]
    repeat' first
           | (with_reducible apply go_op)
           | (with_reducible apply go_next)
           | ((with_reducible (show evOp _ _ _ _ _ _)); first
             | ((with_reducible (show evOp _ (.move _) _ _ _ _)) ; first | ((with_reducible apply go_mv_int); rfl; rfl) | ((with_reducible apply go_mv_sl); rfl; rfl))
             | ((with_reducible apply go_as))
             | (((with_reducible apply go_ld_agg); rfl; rfl; rfl; rfl))
             | (((with_reducible apply go_cmp); rfl; rfl; rfl; rfl))
             | (((with_reducible apply go_fn_int); rfl; (exact h1); rfl))
             | (((with_reducible apply go_bx_agg); rfl; rfl; (exact Nat.le_of_ble_eq_true rfl); rfl; rfl))
             | (((with_reducible apply go_bs1_agg); rfl; rfl; rfl; rfl; rfl; rfl)))
           | ((with_reducible (show evOps _ _ _ _ _ _)); first
             | (with_reducible apply go_nil))
           | ((with_reducible (show evG _ _ _ _ _)); first
             | (with_reducible apply go_seq)
             | (with_reducible apply go_region)
             | ((with_reducible apply go_cond_f); rfl; rfl)
             | (with_reducible apply go_skipc))
           | (with_reducible apply go_kseq)
    all_goals try (exfalso; omega)
    refine go_fn_int (args' := [.sl ([t].map encStd), .clo (.func 53) [] [], .clo (.func 54) [] []]) rfl h2 rfl ?_
    repeat' first
           | (with_reducible apply go_op)
           | (with_reducible apply go_next)
           | ((with_reducible (show evOp _ _ _ _ _ _)); first
             | (((with_reducible apply go_mv_int); rfl; rfl))
             | ((with_reducible apply go_as))
             | (((with_reducible apply go_ld_agg); rfl; rfl; rfl; rfl))
             | (((with_reducible apply go_cmp); rfl; rfl; rfl; rfl))
             | (((with_reducible apply go_fn_int); rfl; (exact h3); rfl)))
           | ((with_reducible (show evOps _ _ _ _ _ _)); first
             | (with_reducible apply go_nil))
           | ((with_reducible (show evG _ _ _ _ _)); first
             | (with_reducible apply go_seq)
             | (with_reducible apply go_region)
             | ((with_reducible apply go_cond_t); rfl; rfl)
             | ((with_reducible apply go_cond_f); rfl; rfl)
             | (with_reducible apply go_ret)
             | (with_reducible apply go_skipc))
           | (with_reducible apply go_kseq)
           | (with_reducible apply go_kseq_ret)
           | ((with_reducible apply end_t2); rfl; rfl; rfl; rfl)
    all_goals first | rfl | (exfalso; omega) | trace_state
  · rw [if_neg (by simp)]
    rw [hr, if_pos rfl] at h3
    obtain ⟨hp, h5⟩ := std_one ht
    have h4 := c_class l (samples60 hs) t hp h5 num den least hr
    refine contract_of mix Tryz.func26 rfl rfl (by rw [Tryz.ntmps26]; exact Nat.le_of_ble_eq_true rfl) ?_; rw [Tryz.results26, Tryz.ntmps26]; simp only [argsE, Nat.reduceAdd]
    repeat' first
           | (with_reducible apply go_op)
           | (with_reducible apply go_next)
           | ((with_reducible (show evOp _ _ _ _ _ _)); first
             | ((with_reducible (show evOp _ (.move _) _ _ _ _)) ; first | ((with_reducible apply go_mv_int); rfl; rfl) | ((with_reducible apply go_mv_sl); rfl; rfl))
             | ((with_reducible apply go_as))
             | (((with_reducible apply go_ld_agg); rfl; rfl; rfl; rfl))
             | (((with_reducible apply go_cmp); rfl; rfl; rfl; rfl))
             | (((with_reducible apply go_fn_int); rfl; (exact h1); rfl))
             | (((with_reducible apply go_bx_agg); rfl; rfl; (exact Nat.le_of_ble_eq_true rfl); rfl; rfl))
             | (((with_reducible apply go_bs1_agg); rfl; rfl; rfl; rfl; rfl; rfl)))
           | ((with_reducible (show evOps _ _ _ _ _ _)); first
             | (with_reducible apply go_nil))
           | ((with_reducible (show evG _ _ _ _ _)); first
             | (with_reducible apply go_seq)
             | (with_reducible apply go_region)
             | ((with_reducible apply go_cond_f); rfl; rfl)
             | (with_reducible apply go_skipc))
           | (with_reducible apply go_kseq)
    all_goals try (exfalso; omega)
    refine go_fn_int (args' := [.sl ([t].map encStd), .clo (.func 53) [] [], .clo (.func 54) [] []]) rfl h2 rfl ?_
    repeat' first
           | (with_reducible apply go_op)
           | (with_reducible apply go_next)
           | ((with_reducible (show evOp _ _ _ _ _ _)); first
             | ((with_reducible (show evOp _ (.move _) _ _ _ _)) ; first | ((with_reducible apply go_mv_int); rfl; rfl) | ((with_reducible apply go_mv_sl); rfl; rfl))
             | ((with_reducible apply go_as))
             | (((with_reducible apply go_ld_agg); rfl; rfl; rfl; rfl))
             | (((with_reducible apply go_cmp); rfl; rfl; rfl; rfl))
             | ((with_reducible (show evOp _ (.call _) _ _ _ _)) ; first | ((with_reducible apply go_fn_int); rfl; (exact h3); rfl) | ((with_reducible apply go_fn_plain); rfl; (exact h4); rfl; (exact Nat.le_of_ble_eq_true rfl); rfl))
             | (((with_reducible apply go_extract); rfl; rfl)))
           | ((with_reducible (show evOps _ _ _ _ _ _)); first
             | (with_reducible apply go_nil))
           | ((with_reducible (show evG _ _ _ _ _)); first
             | (with_reducible apply go_seq)
             | (with_reducible apply go_region)
             | ((with_reducible apply go_cond_f); rfl; rfl)
             | (with_reducible apply go_ret)
             | (with_reducible apply go_skipc))
           | (with_reducible apply go_kseq)
           | ((with_reducible apply end_t2); rfl; rfl; rfl; rfl)
    all_goals first | rfl | (exfalso; omega) | trace_state
end Go.Pv.Soil

/- The rank-th value by counting: plain. -/
namespace Go.Pv.Soil
/-- How many of the first k come before the i-th one. -/
def bef (l : List Int) (v : Int) (i k : Nat) : Nat := (l.take k).countP (fun x => decide (x < v)) + (l.take (min k i)).countP (fun x => decide (x = v))
theorem bef_zero (l : List Int) (v : Int) (i : Nat) : bef l v i 0 = 0 := by simp [bef]
theorem bef_step {l : List Int} {v : Int} {i k : Nat} (hk : k < l.length) : bef l v i (k + 1) = if l[k] < v ∨ (l[k] = v ∧ k < i) then bef l v i k + 1 else bef l v i k := by
  unfold bef
  rw [List.take_succ_eq_append_getElem hk, List.countP_append, List.countP_cons, List.countP_nil]
  by_cases hlt : k < i
  · rw [show min (k + 1) i = k + 1 by omega, show min k i = k by omega, List.take_succ_eq_append_getElem hk, List.countP_append, List.countP_cons, List.countP_nil]
    by_cases h1 : l[k] < v
    · have h2 : l[k] ≠ v := by omega
      rw [if_pos (by simpa using h1), if_neg (by simpa using h2), if_pos (.inl h1)]
      omega
    · by_cases h2 : l[k] = v
      · rw [if_neg (by simpa using h1), if_pos (by simpa using h2), if_pos (.inr ⟨h2, hlt⟩)]
        omega
      · rw [if_neg (by simpa using h1), if_neg (by simpa using h2), if_neg (by rintro (h | h); exact h1 h; exact h2 h.1)]
        omega
  · rw [show min (k + 1) i = min k i by omega]
    by_cases h1 : l[k] < v
    · rw [if_pos (by simpa using h1), if_pos (.inl h1)]
      omega
    · rw [if_neg (by simpa using h1), if_neg (by rintro (h | h); exact h1 h; exact hlt h.2)]
      omega
theorem cnt_split (l : List Int) (v : Int) : l.countP (fun x => decide (x ≤ v)) = l.countP (fun x => decide (x < v)) + l.countP (fun x => decide (x = v)) := by
  induction l with
  | nil => rfl
  | cons a l ih =>
    rw [List.countP_cons, List.countP_cons, List.countP_cons, ih]
    rcases Int.lt_trichotomy a v with h | h | h
    · rw [if_pos (by simp; omega), if_pos (by simpa using h), if_neg (by simp; omega)]; omega
    · rw [if_pos (by simp; omega), if_neg (by simp; omega), if_pos (by simpa using h)]; omega
    · rw [if_neg (by simp; omega), if_neg (by simp; omega), if_neg (by simp; omega)]; omega
theorem cnt_mono (l : List Int) {u v : Int} (h : u < v) : l.countP (fun x => decide (x ≤ u)) ≤ l.countP fun x => decide (x < v) :=
  List.countP_mono_left fun x _ hx => by simp at hx ⊢; omega
theorem nth_of (p : Int → Bool) : ∀ (l : List Int) (t : Nat), t < l.countP p → ∃ i, ∃ h : i < l.length, p l[i] = true ∧ (l.take i).countP p = t
  | [], t, h => by simp at h
  | a :: l, t, h => by
    rw [List.countP_cons] at h
    by_cases hp : p a = true
    · cases t with
      | zero => exact ⟨0, by simp, by simpa using hp, by simp⟩
      | succ t =>
        rw [if_pos hp] at h
        obtain ⟨i, hi, h1, h2⟩ := nth_of p l t (by omega)
        exact ⟨i + 1, by simp; omega, by simpa using h1, by rw [List.take_succ_cons, List.countP_cons, if_pos hp, h2]⟩
    · rw [if_neg hp] at h
      obtain ⟨i, hi, h1, h2⟩ := nth_of p l t (by omega)
      exact ⟨i + 1, by simp; omega, by simpa using h1, by rw [List.take_succ_cons, List.countP_cons, if_neg hp, h2, Nat.add_zero]⟩
/-- The rank. -/
def rankN (n : Nat) (num den : Int) : Nat := (((n : Int) * num + den - 1).tdiv den).toNat
theorem rankN_pos {n : Nat} {num den : Int} (hn : 0 < n) (hd : 1 ≤ den) (hnum : 1 ≤ num ∧ num ≤ den) : 1 ≤ rankN n num den ∧ rankN n num den ≤ n := by
  have hp0 : num ≤ (n : Int) * num := by have := Int.mul_le_mul_of_nonneg_right (show (1 : Int) ≤ n by omega) (show 0 ≤ num by omega); omega
  have hp1 : (n : Int) * num ≤ n * den := Int.mul_le_mul_of_nonneg_left hnum.2 (by omega)
  unfold rankN
  rw [Int.tdiv_eq_ediv_of_nonneg (by omega)]
  have h1 : 1 ≤ ((n : Int) * num + den - 1) / den := (Int.le_ediv_iff_mul_le (by omega)).2 (by omega)
  have h2 : ((n : Int) * num + den - 1) / den < n + 1 := Int.ediv_lt_of_lt_mul (by omega) (by rw [Int.add_mul, Int.one_mul]; omega)
  omega
/-- Rounding up by rounding down. -/
theorem ceil_rank {n : Nat} {num den : Int} (hn : 0 ≤ (n : Int) * num) (hd : 1 ≤ den) : -(-((n : Int) * num) / den) = rankN n num den := by
  unfold rankN
  rw [Int.tdiv_eq_ediv_of_nonneg (by omega)]
  have h0 : 0 ≤ ((n : Int) * num + den - 1) / den := Int.ediv_nonneg (by omega) (by omega)
  have h1 := Int.mul_ediv_add_emod ((n : Int) * num + den - 1) den
  have h2 := Int.emod_nonneg ((n : Int) * num + den - 1) (show den ≠ 0 by omega)
  have h3 := Int.emod_lt_of_pos ((n : Int) * num + den - 1) (show 0 < den by omega)
  have h4 := Int.mul_ediv_add_emod (-((n : Int) * num)) den
  have h5 := Int.emod_nonneg (-((n : Int) * num)) (show den ≠ 0 by omega)
  have h6 := Int.emod_lt_of_pos (-((n : Int) * num)) (show 0 < den by omega)
  generalize ((n : Int) * num + den - 1) / den = q at *
  generalize -((n : Int) * num) / den = p at *
  have e : den * (q + p) < den * 1 ∧ den * (-1) < den * (q + p) := by
    have e1 : den * (q + p) = den * q + den * p := Int.mul_add _ _ _
    constructor <;> omega
  have h7 := Int.lt_of_mul_lt_mul_left e.1 (by omega)
  have h8 := Int.lt_of_mul_lt_mul_left e.2 (by omega)
  omega
theorem bef_all (l : List Int) (i : Nat) (h : i < l.length) : bef l l[i] i l.length = l.countP (fun x => decide (x < l[i])) + (l.take i).countP (fun x => decide (x = l[i])) := by
  unfold bef
  rw [List.take_length, show min l.length i = i by omega]
/-- The one before which there are rank - 1 has the ranked value. -/
theorem rank_of {l : List Int} {num den : Int} (hn : 0 < l.length) (hd : 1 ≤ den) (hnum : 1 ≤ num ∧ num ≤ den) {i : Nat} (h : i < l.length) (he : bef l l[i] i l.length + 1 = rankN l.length num den) : l[i] = rankI l num den := by
  rw [bef_all l i h] at he
  have h1 : (l.take i).countP (fun x => decide (x = l[i])) + 1 ≤ l.countP fun x => decide (x = l[i]) := by
    have e : l.countP (fun x => decide (x = l[i])) = (l.take i).countP (fun x => decide (x = l[i])) + (l.drop i).countP (fun x => decide (x = l[i])) := by rw [← List.countP_append, List.take_append_drop]
    rw [e]
    have : 0 < (l.drop i).countP fun x => decide (x = l[i]) := List.countP_pos_iff.2 ⟨l[i], (List.drop_eq_getElem_cons h) ▸ List.mem_cons_self, by simp⟩
    omega
  have h2 := cnt_split l l[i]
  have h3 := rankI_cnt hn hd hnum
  have hr := rankN_pos hn hd hnum
  have hrn : (((l.length : Int) * num + den - 1).tdiv den).toNat = rankN l.length num den := rfl
  rw [hrn] at h3
  refine Int.le_antisymm ?_ (rankI_least hn hd hnum (by rw [hrn]; omega))
  rcases Int.lt_or_le (rankI l num den) l[i] with hlt | hle
  · have := cnt_mono l hlt
    omega
  · exact hle
/-- There is one before which there are rank - 1. -/
theorem rank_ex {l : List Int} {num den : Int} (hn : 0 < l.length) (hd : 1 ≤ den) (hnum : 1 ≤ num ∧ num ≤ den) : ∃ i, ∃ h : i < l.length, bef l l[i] i l.length + 1 = rankN l.length num den := by
  obtain ⟨hg, hge⟩ := rankI_get hn hd hnum
  have hr := rankN_pos hn hd hnum
  have hrn : (((l.length : Int) * num + den - 1).tdiv den).toNat = rankN l.length num den := rfl
  have h3 := rankI_cnt hn hd hnum
  rw [hrn] at h3
  have h2 := cnt_split l (rankI l num den)
  have h4 : l.countP (fun x => decide (x < rankI l num den)) ≤ rankN l.length num den - 1 := by
    by_cases h0 : rankN l.length num den - 1 < (l.mergeSort fun x y => decide (x ≤ y)).length
    · have := cnt_high (sortI_pw l) hg (u := rankI l num den - 1) (by rw [← hge]; omega)
      rw [cnt_sort] at this
      refine Nat.le_trans (Nat.le_of_eq (List.countP_congr fun x _ => ?_)) this
      simp; omega
    · rw [List.length_mergeSort] at h0; omega
  obtain ⟨i, hi, h5, h6⟩ := nth_of (fun x => decide (x = rankI l num den)) l (rankN l.length num den - 1 - l.countP fun x => decide (x < rankI l num den)) (by omega)
  have h7 : l[i] = rankI l num den := by simpa using h5
  refine ⟨i, hi, ?_⟩
  rw [bef_all l i hi, h7, h6]
  omega
end Go.Pv.Soil

open Go Go.Proofs Go.Pv
set_option maxHeartbeats 4000000
set_option maxRecDepth 100000
set_option linter.unusedSimpArgs false
set_option linter.unusedVariables false
namespace Go.Pv.Geo

theorem mix : Tryz.prog.follows .mixedOrders = true := by decide +kernel
structure Pt where
  x : Int
  y : Int
  deriving DecidableEq
def encPt (p : Pt) : List D := [.int .i64 p.x, .int .i64 p.y]
theorem scalPt : ScalF encPt 2 := fun _ => ⟨rfl, rfl⟩
def ptOK (p : Pt) : Bool := decide ((-1000000 ≤ p.x ∧ p.x ≤ 1000000) ∧ (-1000000 ≤ p.y ∧ p.y ≤ 1000000))
theorem pt_bd {p : Pt} (h : ptOK p = true) : (-1000000 ≤ p.x ∧ p.x ≤ 1000000) ∧ -1000000 ≤ p.y ∧ p.y ≤ 1000000 := by simpa [ptOK] using h
theorem pt_no {p : Pt} (h : ¬ ((-1000000 ≤ p.x ∧ p.x ≤ 1000000) ∧ (-1000000 ≤ p.y ∧ p.y ≤ 1000000))) : true = !ptOK p := by
  simp only [ptOK, decide_eq_false h, Bool.not_false]
theorem pt_yes {p : Pt} (h : (-1000000 ≤ p.x ∧ p.x ≤ 1000000) ∧ (-1000000 ≤ p.y ∧ p.y ≤ 1000000)) : false = !ptOK p := by
  simp only [ptOK, decide_eq_true h, Bool.not_true]

def idxOf {α : Type} (p : α → Bool) (l : List α) : Int := match l.findIdx? p with
  | some i => i
  | none => -1
theorem idxOf_none {α : Type} {p : α → Bool} {l : List α} (h : ∀ x ∈ l, p x = false) : idxOf p l = -1 := by
  have : l.findIdx? p = none := by simpa using h
  rw [idxOf, this]
theorem idxOf_some {α : Type} {p : α → Bool} {l : List α} {i : Nat} (hi : i < l.length) (h : p l[i] = true) (hb : ∀ j (hj : j < i), p (l[j]'(by omega)) = false) : idxOf p l = i := by
  have : l.findIdx? p = some i := by
    rw [List.findIdx?_eq_some_iff_getElem]
    exact ⟨hi, h, fun j hj => by simpa using hb j hj⟩
  rw [idxOf, this]
theorem idxOf_ge {α : Type} {p : α → Bool} {l : List α} : decide (0 ≤ idxOf p l) = l.any p := by
  unfold idxOf
  cases h : l.findIdx? p with
  | none =>
    have : l.any p = false := by
      rw [List.findIdx?_eq_none_iff] at h
      rw [List.any_eq_false]
      intro x hx
      simp [h x hx]
    rw [this]; rfl
  | some i =>
    have : l.any p = true := by
      rw [List.findIdx?_eq_some_iff_getElem] at h
      obtain ⟨hi, h1, _⟩ := h
      exact List.any_eq_true.2 ⟨l[i], List.getElem_mem hi, h1⟩
    rw [this]
    simp

theorem c_within (n lo hi : Int) : Contract Tryz.prog 47 [.int .i64 n, .int .i64 lo, .int .i64 hi] (.ret (.bool (decide (lo ≤ n ∧ n ≤ hi)))) := by
  refine contract_of mix Tryz.func47 rfl rfl (by rw [Tryz.ntmps47]; exact Nat.le_of_ble_eq_true rfl) ?_; rw [Tryz.results47, Tryz.ntmps47]; simp only [argsE, Nat.reduceAdd]
  repeat' first
           | (with_reducible apply go_op)
           | (with_reducible apply go_next)
           | ((with_reducible (show evOp _ _ _ _ _ _)); first
             | ((with_reducible (show evOp _ (.move _) _ _ _ _)) ; first | ((with_reducible apply go_mv_int); rfl; rfl) | ((with_reducible apply go_mv_bool); rfl; rfl))
             | ((with_reducible apply go_as))
             | (((with_reducible apply go_cmp); rfl; rfl; rfl; rfl))
             | (((with_reducible apply go_pick); rfl; rfl; rfl)))
           | ((with_reducible (show evOps _ _ _ _ _ _)); first
             | (with_reducible apply go_nil)
             | ((with_reducible apply go_run); rfl; rfl)
             | ((with_reducible apply go_pass); rfl; rfl; rfl)
             | (((with_reducible apply go_guard); rfl) <;> (intro h; simp only [h, Bool.not_true, Bool.not_false]; (try with_reducible (refine ⟨rfl, ?_⟩)); try simp only [decide_eq_true_eq, decide_eq_false_iff_not, Bool.not_eq_true', Bool.not_eq_false', Bool.not_true, Bool.not_false] at h; try exact absurd trivial h)))
           | ((with_reducible (show evG _ _ _ _ _)); first
             | (with_reducible apply go_seq)
             | (with_reducible apply go_region)
             | (with_reducible apply go_ret))
           | (with_reducible apply go_kseq)
           | ((with_reducible apply end_bool); rfl)
  all_goals (simp at *; try omega)
theorem c_good (p : Pt) : Contract Tryz.prog 45 [.agg (encPt p)] (.ret (.bool (ptOK p))) := by
  refine contract_of mix Tryz.func45 rfl rfl (by rw [Tryz.ntmps45]; exact Nat.le_of_ble_eq_true rfl) ?_; rw [Tryz.results45, Tryz.ntmps45]; simp only [argsE, Nat.reduceAdd]
  repeat' first
           | (with_reducible apply go_op)
           | (with_reducible apply go_next)
           | ((with_reducible (show evOp _ _ _ _ _ _)); first
             | (((with_reducible apply go_mv_bool); rfl; rfl))
             | ((with_reducible apply go_as))
             | (((with_reducible apply go_load_own); rfl; rfl; rfl; rfl))
             | (((with_reducible apply go_fieldAddr_own); rfl; rfl; rfl))
             | (((with_reducible apply go_fn_bool); rfl; (exact c_within _ _ _); rfl))
             | (((with_reducible apply go_pick); rfl; rfl; rfl))
             | (((with_reducible apply go_bx_agg); rfl; rfl; (exact Nat.le_of_ble_eq_true rfl); rfl; rfl)))
           | ((with_reducible (show evOps _ _ _ _ _ _)); first
             | (with_reducible apply go_nil)
             | ((with_reducible apply go_run); rfl; rfl)
             | ((with_reducible apply go_pass); rfl; rfl; rfl)
             | (((with_reducible apply go_guard); rfl) <;> (intro h; simp only [h, Bool.not_true, Bool.not_false]; (try with_reducible (refine ⟨rfl, ?_⟩)); try simp only [decide_eq_true_eq, decide_eq_false_iff_not, Bool.not_eq_true', Bool.not_eq_false', Bool.not_true, Bool.not_false] at h; try exact absurd trivial h)))
           | ((with_reducible (show evG _ _ _ _ _)); first
             | (with_reducible apply go_seq)
             | (with_reducible apply go_region)
             | (with_reducible apply go_ret))
           | (with_reducible apply go_kseq)
           | ((with_reducible apply end_bool); rfl)
  all_goals (unfold ptOK; first | exact decide_eq_decide.2 (by omega) | exact (decide_eq_true (by omega)).symm | exact (decide_eq_false (by omega)).symm | trace_state)
theorem c_outside1 (p : Pt) : Contract Tryz.prog 96 [.agg (encPt p)] (.ret (.bool (!ptOK p))) := by
  refine contract_of mix Tryz.func96 rfl rfl (by rw [Tryz.ntmps96]; exact Nat.le_of_ble_eq_true rfl) ?_; rw [Tryz.results96, Tryz.ntmps96]; simp only [argsE, Nat.reduceAdd]
  repeat' first
           | (with_reducible apply go_op)
           | (with_reducible apply go_next)
           | ((with_reducible (show evOp _ _ _ _ _ _)); first
             | (((with_reducible apply go_mv_bool); rfl; rfl))
             | ((with_reducible apply go_as))
             | (((with_reducible apply go_load_own); rfl; rfl; rfl; rfl))
             | (((with_reducible apply go_fieldAddr_own); rfl; rfl; rfl))
             | (((with_reducible apply go_cmp); rfl; rfl; rfl; rfl))
             | (((with_reducible apply go_pick); rfl; rfl; rfl))
             | (((with_reducible apply go_bx_agg); rfl; rfl; (exact Nat.le_of_ble_eq_true rfl); rfl; rfl)))
           | ((with_reducible (show evOps _ _ _ _ _ _)); first
             | (with_reducible apply go_nil)
             | ((with_reducible apply go_run); rfl; rfl)
             | ((with_reducible apply go_pass); rfl; rfl; rfl)
             | (((with_reducible apply go_guard); rfl) <;> (intro h; simp only [h, Bool.not_true, Bool.not_false]; (try with_reducible (refine ⟨rfl, ?_⟩)); try simp only [decide_eq_true_eq, decide_eq_false_iff_not, Bool.not_eq_true', Bool.not_eq_false', Bool.not_true, Bool.not_false] at h; try exact absurd trivial h)))
           | ((with_reducible (show evG _ _ _ _ _)); first
             | (with_reducible apply go_seq)
             | (with_reducible apply go_region)
             | (with_reducible apply go_ret))
           | (with_reducible apply go_kseq)
           | ((with_reducible apply end_bool); rfl)
  · by_cases h4 : 1000000 < p.y
    · rw [decide_eq_true h4]; exact pt_no (p := p) (by omega)
    · rw [decide_eq_false h4]; exact pt_yes (p := p) (by omega)
  all_goals exact pt_no (p := p) (by omega)
theorem c_IndexFunc (l : List Pt) (hl : l.length < 1000000000000) (g : FuncId) (p : Pt → Bool) (hf : ∀ x ∈ l, Contract Tryz.prog g [.agg (encPt x)] (.ret (.bool (p x)))) :
    Contract Tryz.prog 130 [.sl (l.map encPt), .clo (.func g) [] []] (.ret (.int .i64 (idxOf p l))) := by
  refine contract_of mix Tryz.func130 rfl rfl (by rw [Tryz.ntmps130]; exact Nat.le_of_ble_eq_true rfl) ?_; rw [Tryz.results130, Tryz.ntmps130]; simp only [argsE, Nat.reduceAdd]
  repeat' first
           | (with_reducible apply go_op)
           | (with_reducible apply go_next)
           | ((with_reducible (show evOp _ _ _ _ _ _)); first
             | ((with_reducible (show evOp _ (.move _) _ _ _ _)) ; first | ((with_reducible apply go_mv_int); rfl; rfl) | ((with_reducible apply go_mv_sl); rfl; rfl))
             | ((with_reducible apply go_as))
             | (((with_reducible apply go_len); rfl; rfl)))
           | ((with_reducible (show evOps _ _ _ _ _ _)); first
             | (with_reducible apply go_nil))
           | ((with_reducible (show evG _ _ _ _ _)); first
             | (with_reducible apply go_seq)
             | (with_reducible apply go_region)
             | (with_reducible apply go_block))
           | (with_reducible apply go_kseq)
  refine go_count (l.length) (fun i => ⟨[(8, .int .i64 i), (7, .int .i64 l.length), (0, .sl (l.map encPt)), (1, .clo (.func g) [] [])], [], 0, 19⟩) (fun i => ∀ j (hj : j < i) (hj' : j < l.length), p l[j] = false) (entails_eq (k := 0) (ns := []) (ks := [8, 7, 0, 1]) [] rfl (by simp) rfl) (by omega) ?_
  intro i hi hC
  repeat' first
           | (with_reducible apply go_op)
           | (with_reducible apply go_next)
           | ((with_reducible (show evOp _ _ _ _ _ _)); first
             | ((with_reducible (show evOp _ (.move _) _ _ _ _)) ; first | ((with_reducible apply go_mv_int); rfl; rfl) | ((with_reducible apply go_mv_sl); rfl; rfl) | ((with_reducible apply go_mv_clo); rfl; rfl))
             | ((with_reducible apply go_as))
             | (((with_reducible apply go_ld_ptr); rfl; rfl; rfl))
             | (((with_reducible apply go_index_nat); rfl; rfl; (with_reducible rfl); (intro; rfl); rfl; omega; (intro hlt)))
             | (((with_reducible apply go_cmp); rfl; rfl; rfl; rfl)))
           | ((with_reducible (show evOps _ _ _ _ _ _)); first
             | (with_reducible apply go_nil))
           | ((with_reducible (show evG _ _ _ _ _)); first
             | (with_reducible apply go_seq)
             | (with_reducible apply go_region)
             | (((with_reducible apply go_cond); rfl) <;> (intro h; simp only [h]; try simp only [decide_eq_true_eq, decide_eq_false_iff_not, Bool.not_eq_true', Bool.not_eq_false', Bool.not_true, Bool.not_false] at h; try exact absurd trivial h))
             | (with_reducible apply go_ret)
             | (with_reducible apply go_skipc)
             | (with_reducible apply go_block)
             | (with_reducible apply go_exit))
           | (with_reducible apply go_kseq)
           | (with_reducible apply go_kblock_exit)
           | (with_reducible apply go_kseq_exit)
           | ((with_reducible apply end_int); rfl)
  · refine go_clo_bool (d1 := .agg (encPt l[i])) rfl rfl (fun _ _ => rfl) (hf l[i] (List.getElem_mem _)) rfl ?_
    repeat' first
           | (with_reducible apply go_op)
           | (with_reducible apply go_next)
           | ((with_reducible (show evOp _ _ _ _ _ _)); first
             | (((with_reducible apply go_mv_int); rfl; rfl))
             | ((with_reducible apply go_as))
             | (((with_reducible apply go_add); rfl; rfl; rfl; omega)))
           | ((with_reducible (show evOps _ _ _ _ _ _)); first
             | (with_reducible apply go_nil))
           | ((with_reducible (show evG _ _ _ _ _)); first
             | (with_reducible apply go_seq)
             | (with_reducible apply go_region)
             | (((with_reducible apply go_cond); rfl) <;> (intro h; simp only [h]; try simp only [decide_eq_true_eq, decide_eq_false_iff_not, Bool.not_eq_true', Bool.not_eq_false', Bool.not_true, Bool.not_false] at h; try exact absurd trivial h))
             | (with_reducible apply go_ret)
             | (with_reducible apply go_skipc))
           | (with_reducible apply go_kseq)
           | (with_reducible apply go_kseq_ret)
           | (with_reducible apply go_kblock)
           | (with_reducible apply go_kblock_ret)
           | ((with_reducible apply end_int); rfl)
    · have h2 : i < l.length := by omega
      exact (idxOf_some h2 h fun j hj => hC j hj (by omega)).symm
    · have h2 : i < l.length := by omega
      refine ⟨by omega, fun j hj hj' => ?_, entails_eq (k := 0) (ns := []) (ks := [8, 7, 0, 1]) [] rfl (by simp) rfl⟩
      rcases Nat.lt_succ_iff_lt_or_eq.1 hj with h' | rfl
      · exact hC j h' hj'
      · exact h
  · refine (idxOf_none fun x hx => ?_).symm
    obtain ⟨j, hj, rfl⟩ := List.mem_iff_getElem.1 hx
    exact hC j (by omega) hj
theorem c_ContainsFunc (l : List Pt) (hl : l.length < 1000000000000) (g : FuncId) (p : Pt → Bool) (hf : ∀ x ∈ l, Contract Tryz.prog g [.agg (encPt x)] (.ret (.bool (p x)))) :
    Contract Tryz.prog 95 [.sl (l.map encPt), .clo (.func g) [] []] (.ret (.bool (l.any p))) := by
  refine contract_of mix Tryz.func95 rfl rfl (by rw [Tryz.ntmps95]; exact Nat.le_of_ble_eq_true rfl) ?_; rw [Tryz.results95, Tryz.ntmps95]; simp only [argsE, Nat.reduceAdd]
  repeat' first
           | (with_reducible apply go_op)
           | (with_reducible apply go_next)
           | ((with_reducible (show evOp _ _ _ _ _ _)); first
             | ((with_reducible (show evOp _ (.move _) _ _ _ _)) ; first | ((with_reducible apply go_mv_bool); rfl; rfl) | ((with_reducible apply go_mv_sl); rfl; rfl) | ((with_reducible apply go_mv_clo); rfl; rfl))
             | ((with_reducible apply go_as))
             | (((with_reducible apply go_cmp); rfl; rfl; rfl; rfl))
             | (((with_reducible apply go_fn_int); rfl; (exact c_IndexFunc l hl g p hf); rfl)))
           | ((with_reducible (show evOps _ _ _ _ _ _)); first
             | (with_reducible apply go_nil))
           | ((with_reducible (show evG _ _ _ _ _)); first
             | (with_reducible apply go_seq)
             | (with_reducible apply go_region)
             | (with_reducible apply go_ret))
           | (with_reducible apply go_kseq)
           | ((with_reducible apply end_bool); rfl)
  exact idxOf_ge
theorem c_outside (l : List Pt) (hl : l.length < 1000000000000) : Contract Tryz.prog 67 [.sl (l.map encPt)] (.ret (.bool (l.any fun p => !ptOK p))) := by
  refine contract_of mix Tryz.func67 rfl rfl (by rw [Tryz.ntmps67]; exact Nat.le_of_ble_eq_true rfl) ?_; rw [Tryz.results67, Tryz.ntmps67]; simp only [argsE, Nat.reduceAdd]
  repeat' first
           | (with_reducible apply go_op)
           | (with_reducible apply go_next)
           | ((with_reducible (show evOp _ _ _ _ _ _)); first
             | ((with_reducible (show evOp _ (.move _) _ _ _ _)) ; first | ((with_reducible apply go_mv_bool); rfl; rfl) | ((with_reducible apply go_mv_sl); rfl; rfl))
             | ((with_reducible apply go_as))
             | (((with_reducible apply go_fn_bool); rfl; (exact c_ContainsFunc l hl 96 (fun p => !ptOK p) fun x _ => c_outside1 x); rfl)))
           | ((with_reducible (show evOps _ _ _ _ _ _)); first
             | (with_reducible apply go_nil))
           | ((with_reducible (show evG _ _ _ _ _)); first
             | (with_reducible apply go_seq)
             | (with_reducible apply go_region)
             | (with_reducible apply go_ret))
           | (with_reducible apply go_kseq)
           | ((with_reducible apply end_bool); rfl)
           | (with_reducible rfl)
theorem c_outside_1 (a : Pt) : Contract Tryz.prog 67 [.sl [encPt a]] (.ret (.bool (!ptOK a))) := by
  have := c_outside [a] (by simp)
  simpa using this
theorem c_outside_2 (a b : Pt) : Contract Tryz.prog 67 [.sl [encPt a, encPt b]] (.ret (.bool (!(ptOK a && ptOK b)))) := by
  have := c_outside [a, b] (by simp)
  simpa [Bool.not_and] using this
theorem c_outside_3 (a b c : Pt) : Contract Tryz.prog 67 [.sl [encPt a, encPt b, encPt c]] (.ret (.bool (!(ptOK a && ptOK b && ptOK c)))) := by
  have := c_outside [a, b, c] (by simp)
  simpa [Bool.not_and, Bool.or_assoc] using this
theorem c_outside_4 (a b c d : Pt) : Contract Tryz.prog 67 [.sl [encPt a, encPt b, encPt c, encPt d]] (.ret (.bool (!(ptOK a && ptOK b && ptOK c && ptOK d)))) := by
  have := c_outside [a, b, c, d] (by simp)
  simpa [Bool.not_and, Bool.or_assoc] using this

theorem mul_abs {u v A B : Int} (hu : -A ≤ u ∧ u ≤ A) (hv : -B ≤ v ∧ v ≤ B) : -(A * B) ≤ u * v ∧ u * v ≤ A * B := by
  have key : ∀ y : Int, 0 ≤ y ∧ y ≤ B → -(A * B) ≤ u * y ∧ u * y ≤ A * B := fun y hy => by
    have h1 : u * y ≤ A * y := Int.mul_le_mul_of_nonneg_right hu.2 hy.1
    have h2 : -A * y ≤ u * y := Int.mul_le_mul_of_nonneg_right hu.1 hy.1
    have h3 : A * y ≤ A * B := Int.mul_le_mul_of_nonneg_left hy.2 (by omega)
    rw [Int.neg_mul] at h2
    omega
  by_cases h : 0 ≤ v
  · exact key v ⟨h, hv.2⟩
  · have := key (-v) ⟨by omega, by omega⟩
    rw [Int.mul_neg] at this
    omega
def crossE (a b c : Pt) : Int := (b.x - a.x) * (c.y - a.y) - (b.y - a.y) * (c.x - a.x)
def dotE (a b c : Pt) : Int := (b.x - a.x) * (c.x - a.x) + (b.y - a.y) * (c.y - a.y)
theorem mul4 {u v : Int} (hu : -2000000 ≤ u ∧ u ≤ 2000000) (hv : -2000000 ≤ v ∧ v ≤ 2000000) : -4000000000000 ≤ u * v ∧ u * v ≤ 4000000000000 := by
  have := mul_abs hu hv; omega
theorem cross_bd {a b c : Pt} (ha : ptOK a = true) (hb : ptOK b = true) (hc : ptOK c = true) : (-4000000000000 ≤ (b.x - a.x) * (c.y - a.y) ∧ (b.x - a.x) * (c.y - a.y) ≤ 4000000000000) ∧ (-4000000000000 ≤ (b.y - a.y) * (c.x - a.x) ∧ (b.y - a.y) * (c.x - a.x) ≤ 4000000000000) := by
  have h1 := pt_bd ha
  have h2 := pt_bd hb
  have h3 := pt_bd hc
  exact ⟨mul4 (by omega) (by omega), mul4 (by omega) (by omega)⟩
theorem dot_bd {a b c : Pt} (ha : ptOK a = true) (hb : ptOK b = true) (hc : ptOK c = true) : (-4000000000000 ≤ (b.x - a.x) * (c.x - a.x) ∧ (b.x - a.x) * (c.x - a.x) ≤ 4000000000000) ∧ (-4000000000000 ≤ (b.y - a.y) * (c.y - a.y) ∧ (b.y - a.y) * (c.y - a.y) ≤ 4000000000000) := by
  have h1 := pt_bd ha
  have h2 := pt_bd hb
  have h3 := pt_bd hc
  exact ⟨mul4 (by omega) (by omega), mul4 (by omega) (by omega)⟩
theorem crossE_bd {a b c : Pt} (ha : ptOK a = true) (hb : ptOK b = true) (hc : ptOK c = true) : -8000000000000 ≤ crossE a b c ∧ crossE a b c ≤ 8000000000000 := by
  have := cross_bd ha hb hc; unfold crossE; omega
theorem dotE_bd {a b c : Pt} (ha : ptOK a = true) (hb : ptOK b = true) (hc : ptOK c = true) : -8000000000000 ≤ dotE a b c ∧ dotE a b c ≤ 8000000000000 := by
  have := dot_bd ha hb hc; unfold dotE; omega
theorem c_cross (a b c : Pt) (ha : ptOK a = true) (hb : ptOK b = true) (hc : ptOK c = true) : Contract Tryz.prog 99 [.agg (encPt a), .agg (encPt b), .agg (encPt c)] (.ret (.int .i64 (crossE a b c))) := by
  have h1 := pt_bd ha
  have h2 := pt_bd hb
  have h3 := pt_bd hc
  have h4 := cross_bd ha hb hc
  refine contract_of mix Tryz.func99 rfl rfl (by rw [Tryz.ntmps99]; exact Nat.le_of_ble_eq_true rfl) ?_; rw [Tryz.results99, Tryz.ntmps99]; simp only [argsE, Nat.reduceAdd]
  repeat' first
           | (with_reducible apply go_op)
           | (with_reducible apply go_next)
           | ((with_reducible (show evOp _ _ _ _ _ _)); first
             | (((with_reducible apply go_mv_int); rfl; rfl))
             | ((with_reducible apply go_as))
             | (((with_reducible apply go_load_own); rfl; rfl; rfl; rfl))
             | (((with_reducible apply go_fieldAddr_own); rfl; rfl; rfl))
             | ((with_reducible (show evOp _ (.binOp _ _ _ _ _) _ _ _ _)) ; first | ((with_reducible apply go_sub); rfl; rfl; rfl; omega) | ((with_reducible apply go_mul); rfl; rfl; rfl; omega))
             | (((with_reducible apply go_bx_agg); rfl; rfl; (exact Nat.le_of_ble_eq_true rfl); rfl; rfl)))
           | ((with_reducible (show evOps _ _ _ _ _ _)); first
             | (with_reducible apply go_nil))
           | ((with_reducible (show evG _ _ _ _ _)); first
             | (with_reducible apply go_seq)
             | (with_reducible apply go_region)
             | (with_reducible apply go_ret))
           | (with_reducible apply go_kseq)
           | ((with_reducible apply end_int); rfl)
  all_goals rfl
theorem c_rcross (a b c : Pt) (ha : ptOK a = true) (hb : ptOK b = true) (hc : ptOK c = true) : Contract Tryz.prog 116 [.agg (encPt a), .agg (encPt b), .agg (encPt c)] (.ret (.int .i64 (crossE a b c))) := by
  have h1 := pt_bd ha
  have h2 := pt_bd hb
  have h3 := pt_bd hc
  have h4 := cross_bd ha hb hc
  refine contract_of mix Tryz.func116 rfl rfl (by rw [Tryz.ntmps116]; exact Nat.le_of_ble_eq_true rfl) ?_; rw [Tryz.results116, Tryz.ntmps116]; simp only [argsE, Nat.reduceAdd]
  repeat' first
           | (with_reducible apply go_op)
           | (with_reducible apply go_next)
           | ((with_reducible (show evOp _ _ _ _ _ _)); first
             | (((with_reducible apply go_mv_int); rfl; rfl))
             | ((with_reducible apply go_as))
             | (((with_reducible apply go_load_own); rfl; rfl; rfl; rfl))
             | (((with_reducible apply go_fieldAddr_own); rfl; rfl; rfl))
             | ((with_reducible (show evOp _ (.binOp _ _ _ _ _) _ _ _ _)) ; first | ((with_reducible apply go_sub); rfl; rfl; rfl; omega) | ((with_reducible apply go_mul); rfl; rfl; rfl; omega))
             | (((with_reducible apply go_bx_agg); rfl; rfl; (exact Nat.le_of_ble_eq_true rfl); rfl; rfl)))
           | ((with_reducible (show evOps _ _ _ _ _ _)); first
             | (with_reducible apply go_nil))
           | ((with_reducible (show evG _ _ _ _ _)); first
             | (with_reducible apply go_seq)
             | (with_reducible apply go_region)
             | (with_reducible apply go_ret))
           | (with_reducible apply go_kseq)
           | ((with_reducible apply end_int); rfl)
  all_goals rfl
theorem c_dot (a b c : Pt) (ha : ptOK a = true) (hb : ptOK b = true) (hc : ptOK c = true) : Contract Tryz.prog 110 [.agg (encPt a), .agg (encPt b), .agg (encPt c)] (.ret (.int .i64 (dotE a b c))) := by
  have h1 := pt_bd ha
  have h2 := pt_bd hb
  have h3 := pt_bd hc
  have h4 := dot_bd ha hb hc
  refine contract_of mix Tryz.func110 rfl rfl (by rw [Tryz.ntmps110]; exact Nat.le_of_ble_eq_true rfl) ?_; rw [Tryz.results110, Tryz.ntmps110]; simp only [argsE, Nat.reduceAdd]
  repeat' first
           | (with_reducible apply go_op)
           | (with_reducible apply go_next)
           | ((with_reducible (show evOp _ _ _ _ _ _)); first
             | (((with_reducible apply go_mv_int); rfl; rfl))
             | ((with_reducible apply go_as))
             | (((with_reducible apply go_load_own); rfl; rfl; rfl; rfl))
             | (((with_reducible apply go_fieldAddr_own); rfl; rfl; rfl))
             | ((with_reducible (show evOp _ (.binOp _ _ _ _ _) _ _ _ _)) ; first | ((with_reducible apply go_add); rfl; rfl; rfl; omega) | ((with_reducible apply go_sub); rfl; rfl; rfl; omega) | ((with_reducible apply go_mul); rfl; rfl; rfl; omega))
             | (((with_reducible apply go_bx_agg); rfl; rfl; (exact Nat.le_of_ble_eq_true rfl); rfl; rfl)))
           | ((with_reducible (show evOps _ _ _ _ _ _)); first
             | (with_reducible apply go_nil))
           | ((with_reducible (show evG _ _ _ _ _)); first
             | (with_reducible apply go_seq)
             | (with_reducible apply go_region)
             | (with_reducible apply go_ret))
           | (with_reducible apply go_kseq)
           | ((with_reducible apply end_int); rfl)
  all_goals rfl
theorem c_rdot (a b c : Pt) (ha : ptOK a = true) (hb : ptOK b = true) (hc : ptOK c = true) : Contract Tryz.prog 118 [.agg (encPt a), .agg (encPt b), .agg (encPt c)] (.ret (.int .i64 (dotE a b c))) := by
  have h1 := pt_bd ha
  have h2 := pt_bd hb
  have h3 := pt_bd hc
  have h4 := dot_bd ha hb hc
  refine contract_of mix Tryz.func118 rfl rfl (by rw [Tryz.ntmps118]; exact Nat.le_of_ble_eq_true rfl) ?_; rw [Tryz.results118, Tryz.ntmps118]; simp only [argsE, Nat.reduceAdd]
  repeat' first
           | (with_reducible apply go_op)
           | (with_reducible apply go_next)
           | ((with_reducible (show evOp _ _ _ _ _ _)); first
             | (((with_reducible apply go_mv_int); rfl; rfl))
             | ((with_reducible apply go_as))
             | (((with_reducible apply go_load_own); rfl; rfl; rfl; rfl))
             | (((with_reducible apply go_fieldAddr_own); rfl; rfl; rfl))
             | ((with_reducible (show evOp _ (.binOp _ _ _ _ _) _ _ _ _)) ; first | ((with_reducible apply go_add); rfl; rfl; rfl; omega) | ((with_reducible apply go_sub); rfl; rfl; rfl; omega) | ((with_reducible apply go_mul); rfl; rfl; rfl; omega))
             | (((with_reducible apply go_bx_agg); rfl; rfl; (exact Nat.le_of_ble_eq_true rfl); rfl; rfl)))
           | ((with_reducible (show evOps _ _ _ _ _ _)); first
             | (with_reducible apply go_nil))
           | ((with_reducible (show evG _ _ _ _ _)); first
             | (with_reducible apply go_seq)
             | (with_reducible apply go_region)
             | (with_reducible apply go_ret))
           | (with_reducible apply go_kseq)
           | ((with_reducible apply end_int); rfl)
  all_goals rfl
def sqE (a b : Pt) : Int := dotE a b b
theorem c_rsquare (a b : Pt) (ha : ptOK a = true) (hb : ptOK b = true) : Contract Tryz.prog 119 [.agg (encPt a), .agg (encPt b)] (.ret (.int .i64 (sqE a b))) := by
  refine contract_of mix Tryz.func119 rfl rfl (by rw [Tryz.ntmps119]; exact Nat.le_of_ble_eq_true rfl) ?_; rw [Tryz.results119, Tryz.ntmps119]; simp only [argsE, Nat.reduceAdd]
  repeat' first
           | (with_reducible apply go_op)
           | (with_reducible apply go_next)
           | ((with_reducible (show evOp _ _ _ _ _ _)); first
             | (((with_reducible apply go_mv_int); rfl; rfl))
             | ((with_reducible apply go_as))
             | (((with_reducible apply go_ld_agg); rfl; rfl; rfl; rfl))
             | (((with_reducible apply go_fn_int); rfl; (exact c_rdot a b b ha hb hb); rfl))
             | (((with_reducible apply go_bx_agg); rfl; rfl; (exact Nat.le_of_ble_eq_true rfl); rfl; rfl)))
           | ((with_reducible (show evOps _ _ _ _ _ _)); first
             | (with_reducible apply go_nil))
           | ((with_reducible (show evG _ _ _ _ _)); first
             | (with_reducible apply go_seq)
             | (with_reducible apply go_region)
             | (with_reducible apply go_ret))
           | (with_reducible apply go_kseq)
           | ((with_reducible apply end_int); rfl)
  rfl
def signE (n : Int) : Int := if n < 0 then -1 else if 0 < n then 1 else 0
theorem c_sign (n : Int) : Contract Tryz.prog 115 [.int .i64 n] (.ret (.int .i64 (signE n))) := by
  refine contract_of mix Tryz.func115 rfl rfl (by rw [Tryz.ntmps115]; exact Nat.le_of_ble_eq_true rfl) ?_; rw [Tryz.results115, Tryz.ntmps115]; simp only [argsE, Nat.reduceAdd]
  repeat' first
           | (with_reducible apply go_op)
           | (with_reducible apply go_next)
           | ((with_reducible (show evOp _ _ _ _ _ _)); first
             | (((with_reducible apply go_mv_int); rfl; rfl))
             | ((with_reducible apply go_as))
             | (((with_reducible apply go_cmp); rfl; rfl; rfl; rfl)))
           | ((with_reducible (show evOps _ _ _ _ _ _)); first
             | (with_reducible apply go_nil))
           | ((with_reducible (show evG _ _ _ _ _)); first
             | (with_reducible apply go_seq)
             | (with_reducible apply go_region)
             | (((with_reducible apply go_cond); rfl) <;> (intro h; simp only [h]; try simp only [decide_eq_true_eq, decide_eq_false_iff_not, Bool.not_eq_true', Bool.not_eq_false', Bool.not_true, Bool.not_false] at h; try exact absurd trivial h))
             | (with_reducible apply go_ret)
             | (with_reducible apply go_skipc))
           | (with_reducible apply go_kseq)
           | (with_reducible apply go_kseq_ret)
           | ((with_reducible apply end_int); rfl)
  all_goals (unfold signE; (repeat' split) <;> first | rfl | (exfalso; omega))
theorem c_rorient (a b c : Pt) (ha : ptOK a = true) (hb : ptOK b = true) (hc : ptOK c = true) : Contract Tryz.prog 82 [.agg (encPt a), .agg (encPt b), .agg (encPt c)] (.ret (.int .i64 (signE (crossE a b c)))) := by
  refine contract_of mix Tryz.func82 rfl rfl (by rw [Tryz.ntmps82]; exact Nat.le_of_ble_eq_true rfl) ?_; rw [Tryz.results82, Tryz.ntmps82]; simp only [argsE, Nat.reduceAdd]
  repeat' first
           | (with_reducible apply go_op)
           | (with_reducible apply go_next)
           | ((with_reducible (show evOp _ _ _ _ _ _)); first
             | (((with_reducible apply go_mv_int); rfl; rfl))
             | ((with_reducible apply go_as))
             | (((with_reducible apply go_ld_agg); rfl; rfl; rfl; rfl))
             | ((with_reducible (show evOp _ (.call _) _ _ _ _)) ; first | ((with_reducible apply go_fn_int); rfl; (exact c_rcross a b c ha hb hc); rfl) | ((with_reducible apply go_fn_int); rfl; (exact c_sign _); rfl))
             | (((with_reducible apply go_bx_agg); rfl; rfl; (exact Nat.le_of_ble_eq_true rfl); rfl; rfl)))
           | ((with_reducible (show evOps _ _ _ _ _ _)); first
             | (with_reducible apply go_nil))
           | ((with_reducible (show evG _ _ _ _ _)); first
             | (with_reducible apply go_seq)
             | (with_reducible apply go_region)
             | (with_reducible apply go_ret))
           | (with_reducible apply go_kseq)
           | ((with_reducible apply end_int); rfl)
           | (with_reducible rfl)
theorem c_isNaN (n : Int) : Contract Tryz.prog 179 [.int .i64 n] (.ret (.bool false)) := by
  refine contract_of mix Tryz.func179 rfl rfl (by rw [Tryz.ntmps179]; exact Nat.le_of_ble_eq_true rfl) ?_; rw [Tryz.results179, Tryz.ntmps179]; simp only [argsE, Nat.reduceAdd]
  repeat' first
           | (with_reducible apply go_op)
           | (with_reducible apply go_next)
           | ((with_reducible (show evOp _ _ _ _ _ _)); first
             | ((with_reducible (show evOp _ (.move _) _ _ _ _)) ; first | ((with_reducible apply go_mv_int); rfl; rfl) | ((with_reducible apply go_mv_bool); rfl; rfl))
             | ((with_reducible apply go_as))
             | (((with_reducible apply go_cmp); rfl; rfl; rfl; rfl)))
           | ((with_reducible (show evOps _ _ _ _ _ _)); first
             | (with_reducible apply go_nil))
           | ((with_reducible (show evG _ _ _ _ _)); first
             | (with_reducible apply go_seq)
             | (with_reducible apply go_region)
             | (with_reducible apply go_ret))
           | (with_reducible apply go_kseq)
           | ((with_reducible apply end_bool); rfl)
  all_goals simp
def cmpE (a b : Int) : Int := if a < b then -1 else if b < a then 1 else 0
theorem c_compare (n m : Int) : Contract Tryz.prog 180 [.int .i64 n, .int .i64 m] (.ret (.int .i64 (cmpE n m))) := by
  refine contract_of mix Tryz.func180 rfl rfl (by rw [Tryz.ntmps180]; exact Nat.le_of_ble_eq_true rfl) ?_; rw [Tryz.results180, Tryz.ntmps180]; simp only [argsE, Nat.reduceAdd]
  repeat' first
           | (with_reducible apply go_op)
           | (with_reducible apply go_next)
           | ((with_reducible (show evOp _ _ _ _ _ _)); first
             | ((with_reducible (show evOp _ (.move _) _ _ _ _)) ; first | ((with_reducible apply go_mv_int); rfl; rfl) | ((with_reducible apply go_mv_bool); rfl; rfl))
             | ((with_reducible apply go_as))
             | (((with_reducible apply go_cmp); rfl; rfl; rfl; rfl))
             | (((with_reducible apply go_fn_bool); rfl; (exact c_isNaN _); rfl)))
           | ((with_reducible (show evOps _ _ _ _ _ _)); first
             | (with_reducible apply go_nil))
           | ((with_reducible (show evG _ _ _ _ _)); first
             | (with_reducible apply go_seq)
             | (with_reducible apply go_region)
             | ((with_reducible apply go_cond_f); rfl; rfl)
             | (((with_reducible apply go_cond); rfl) <;> (intro h; simp only [h]; try simp only [decide_eq_true_eq, decide_eq_false_iff_not, Bool.not_eq_true', Bool.not_eq_false', Bool.not_true, Bool.not_false] at h; try exact absurd trivial h))
             | (with_reducible apply go_ret)
             | (with_reducible apply go_skipc))
           | (with_reducible apply go_kseq)
           | (with_reducible apply go_kseq_ret)
           | ((with_reducible apply end_int); rfl)
  all_goals (unfold cmpE; (repeat' split) <;> first | rfl | (exfalso; omega))
theorem c_compare0 (n : Int) : Contract Tryz.prog 180 [.int .i64 n, .int .i64 0] (.ret (.int .i64 (signE n))) := c_compare n 0
theorem c_side (a b c : Pt) (ha : ptOK a = true) (hb : ptOK b = true) (hc : ptOK c = true) : Contract Tryz.prog 167 [.agg (encPt a), .agg (encPt b), .agg (encPt c)] (.ret (.int .i64 (signE (crossE a b c)))) := by
  refine contract_of mix Tryz.func167 rfl rfl (by rw [Tryz.ntmps167]; exact Nat.le_of_ble_eq_true rfl) ?_; rw [Tryz.results167, Tryz.ntmps167]; simp only [argsE, Nat.reduceAdd]
  repeat' first
           | (with_reducible apply go_op)
           | (with_reducible apply go_next)
           | ((with_reducible (show evOp _ _ _ _ _ _)); first
             | (((with_reducible apply go_mv_int); rfl; rfl))
             | ((with_reducible apply go_as))
             | (((with_reducible apply go_ld_agg); rfl; rfl; rfl; rfl))
             | ((with_reducible (show evOp _ (.call _) _ _ _ _)) ; first | ((with_reducible apply go_fn_int); rfl; (exact c_cross a b c ha hb hc); rfl) | ((with_reducible apply go_fn_int); rfl; (exact c_compare0 _); rfl))
             | (((with_reducible apply go_bx_agg); rfl; rfl; (exact Nat.le_of_ble_eq_true rfl); rfl; rfl)))
           | ((with_reducible (show evOps _ _ _ _ _ _)); first
             | (with_reducible apply go_nil))
           | ((with_reducible (show evG _ _ _ _ _)); first
             | (with_reducible apply go_seq)
             | (with_reducible apply go_region)
             | (with_reducible apply go_ret))
           | (with_reducible apply go_kseq)
           | ((with_reducible apply end_int); rfl)
           | (with_reducible rfl)
/-- Is a point on a segment? -/
def onE (a b p : Pt) : Bool := decide (crossE a b p = 0 ∧ (min a.x b.x ≤ p.x ∧ p.x ≤ max a.x b.x) ∧ (min a.y b.y ≤ p.y ∧ p.y ≤ max a.y b.y))
theorem c_on (a b p : Pt) (ha : ptOK a = true) (hb : ptOK b = true) (hp : ptOK p = true) : Contract Tryz.prog 98 [.agg (encPt a), .agg (encPt b), .agg (encPt p)] (.ret (.bool (onE a b p))) := by
  refine contract_of mix Tryz.func98 rfl rfl (by rw [Tryz.ntmps98]; exact Nat.le_of_ble_eq_true rfl) ?_; rw [Tryz.results98, Tryz.ntmps98]; simp only [argsE, Nat.reduceAdd]
  repeat' first
           | (with_reducible apply go_op)
           | (with_reducible apply go_next)
           | ((with_reducible (show evOp _ _ _ _ _ _)); first
             | (((with_reducible apply go_mv_bool); rfl; rfl))
             | ((with_reducible apply go_as))
             | ((with_reducible (show evOp _ (.load _ _) _ _ _ _)) ; first | ((with_reducible apply go_ld_agg); rfl; rfl; rfl; rfl) | ((with_reducible apply go_load_own); rfl; rfl; rfl; rfl))
             | (((with_reducible apply go_fieldAddr_own); rfl; rfl; rfl))
             | (((with_reducible apply go_cmp); rfl; rfl; rfl; rfl))
             | ((with_reducible (show evOp _ (.call _) _ _ _ _)) ; first | ((with_reducible apply go_min); rfl; rfl; rfl) | ((with_reducible apply go_max); rfl; rfl; rfl) | ((with_reducible apply go_fn_int); rfl; (exact c_cross a b p ha hb hp); rfl))
             | (((with_reducible apply go_pick); rfl; rfl; rfl))
             | (((with_reducible apply go_bx_agg); rfl; rfl; (exact Nat.le_of_ble_eq_true rfl); rfl; rfl)))
           | ((with_reducible (show evOps _ _ _ _ _ _)); first
             | (with_reducible apply go_nil)
             | ((with_reducible apply go_run); rfl; rfl)
             | ((with_reducible apply go_pass); rfl; rfl; rfl)
             | (((with_reducible apply go_guard); rfl) <;> (intro h; simp only [h, Bool.not_true, Bool.not_false]; (try with_reducible (refine ⟨rfl, ?_⟩)); try simp only [decide_eq_true_eq, decide_eq_false_iff_not, Bool.not_eq_true', Bool.not_eq_false', Bool.not_true, Bool.not_false] at h; try exact absurd trivial h)))
           | ((with_reducible (show evG _ _ _ _ _)); first
             | (with_reducible apply go_seq)
             | (with_reducible apply go_region)
             | (with_reducible apply go_ret))
           | (with_reducible apply go_kseq)
           | ((with_reducible apply end_bool); rfl)
  all_goals (unfold onE; first | exact (decide_eq_true (by omega)).symm | exact (decide_eq_false (by omega)).symm | (exact decide_eq_decide.2 (by omega)) | trace_state)
theorem sign_mul (a b : Int) : -1 ≤ signE a * signE b ∧ signE a * signE b ≤ 1 := by
  have h : ∀ n, -1 ≤ signE n ∧ signE n ≤ 1 := fun n => by unfold signE; (repeat' split) <;> omega
  have := mul_abs (A := 1) (B := 1) (h a) (h b)
  omega
/-- Have two segments a point in common? -/
def meetE (a b c d : Pt) : Bool := (onE a b c || onE a b d || onE c d a || onE c d b) || (decide (signE (crossE a b c) * signE (crossE a b d) < 0) && decide (signE (crossE c d a) * signE (crossE c d b) < 0))
theorem c_meet (a b c d : Pt) (ha : ptOK a = true) (hb : ptOK b = true) (hc : ptOK c = true) (hd : ptOK d = true) : Contract Tryz.prog 147 [.agg (encPt a), .agg (encPt b), .agg (encPt c), .agg (encPt d)] (.ret (.bool (meetE a b c d))) := by
  have s1 := sign_mul (crossE a b c) (crossE a b d)
  have s2 := sign_mul (crossE c d a) (crossE c d b)
  refine contract_of mix Tryz.func147 rfl rfl (by rw [Tryz.ntmps147]; exact Nat.le_of_ble_eq_true rfl) ?_; rw [Tryz.results147, Tryz.ntmps147]; simp only [argsE, Nat.reduceAdd]
  repeat' first
           | (with_reducible apply go_op)
           | (with_reducible apply go_next)
           | ((with_reducible (show evOp _ _ _ _ _ _)); first
             | (((with_reducible apply go_mv_bool); rfl; rfl))
             | ((with_reducible apply go_as))
             | (((with_reducible apply go_ld_agg); rfl; rfl; rfl; rfl))
             | ((with_reducible (show evOp _ (.binOp _ _ _ _ _) _ _ _ _)) ; first | ((with_reducible apply go_cmp); rfl; rfl; rfl; rfl) | ((with_reducible apply go_mul); rfl; rfl; rfl; omega))
             | ((with_reducible (show evOp _ (.call _) _ _ _ _)) ; first | ((with_reducible apply go_fn_bool); rfl; (exact c_on a b c ha hb hc); rfl) | ((with_reducible apply go_fn_bool); rfl; (exact c_on a b d ha hb hd); rfl) | ((with_reducible apply go_fn_bool); rfl; (exact c_on c d a hc hd ha); rfl) | ((with_reducible apply go_fn_bool); rfl; (exact c_on c d b hc hd hb); rfl) | ((with_reducible apply go_fn_int); rfl; (exact c_side a b c ha hb hc); rfl) | ((with_reducible apply go_fn_int); rfl; (exact c_side a b d ha hb hd); rfl) | ((with_reducible apply go_fn_int); rfl; (exact c_side c d a hc hd ha); rfl) | ((with_reducible apply go_fn_int); rfl; (exact c_side c d b hc hd hb); rfl))
             | (((with_reducible apply go_pick); rfl; rfl; rfl))
             | (((with_reducible apply go_bx_agg); rfl; rfl; (exact Nat.le_of_ble_eq_true rfl); rfl; rfl)))
           | ((with_reducible (show evOps _ _ _ _ _ _)); first
             | (with_reducible apply go_nil)
             | ((with_reducible apply go_run); rfl; rfl)
             | ((with_reducible apply go_pass); rfl; rfl; rfl)
             | (((with_reducible apply go_guard); rfl) <;> (intro h; simp only [h, Bool.not_true, Bool.not_false]; (try with_reducible (refine ⟨rfl, ?_⟩)); try simp only [decide_eq_true_eq, decide_eq_false_iff_not, Bool.not_eq_true', Bool.not_eq_false', Bool.not_true, Bool.not_false] at h; try exact absurd trivial h))
             | ((with_reducible apply go_pre); rfl)
             | (with_reducible apply go_pre_nil)
             | ((with_reducible apply go_suf); rfl)
             | (with_reducible apply go_suf_nil))
           | ((with_reducible (show evG _ _ _ _ _)); first
             | (with_reducible apply go_seq)
             | (with_reducible apply go_region)
             | ((with_reducible apply go_cond_t); rfl; rfl)
             | (((with_reducible apply go_cond); rfl) <;> (intro h; simp only [h]; try simp only [decide_eq_true_eq, decide_eq_false_iff_not, Bool.not_eq_true', Bool.not_eq_false', Bool.not_true, Bool.not_false] at h; try exact absurd trivial h))
             | ((with_reducible apply go_order); kernel_rfl; rfl)
             | (with_reducible apply go_ret)
             | (with_reducible apply go_skipc))
           | (with_reducible apply go_kseq)
           | (with_reducible apply go_ksuf)
           | (with_reducible apply go_kseq_ret)
           | ((with_reducible apply end_bool); rfl)
  all_goals (unfold meetE; simp [*])
end Go.Pv.Geo

open Go Go.Proofs Go.Pv
set_option maxHeartbeats 4000000
set_option maxRecDepth 100000
set_option linter.unusedSimpArgs false
set_option linter.unusedVariables false
namespace Go.Pv.Geo
def encT3 (a b c : Pt) : List D := [.int .i64 a.x, .int .i64 a.y, .int .i64 b.x, .int .i64 b.y, .int .i64 c.x, .int .i64 c.y]
def pre3 (u v w : Int) : Nat → List D
  | 0 => [.int .i64 0, .int .i64 0, .int .i64 0]
  | 1 => [.int .i64 u, .int .i64 0, .int .i64 0]
  | 2 => [.int .i64 u, .int .i64 v, .int .i64 0]
  | _ => [.int .i64 u, .int .i64 v, .int .i64 w]
def nrm (a d : Pt) : Int := (a.x - d.x) * (a.x - d.x) + (a.y - d.y) * (a.y - d.y)
def crs (b c d : Pt) : Int := (b.x - d.x) * (c.y - d.y) - (c.x - d.x) * (b.y - d.y)
def detE (a b c d : Pt) : Int := 0 + nrm a d * crs b c d + nrm b d * crs c a d + nrm c d * crs a b d
def detP (u v w : Int) : Nat → Int
  | 0 => 0
  | 1 => 0 + u
  | 2 => 0 + u + v
  | _ => 0 + u + v + w
def nearE (a d : Pt) : Prop := (-20000 ≤ a.x - d.x ∧ a.x - d.x ≤ 20000) ∧ -20000 ≤ a.y - d.y ∧ a.y - d.y ≤ 20000
theorem mulN {u v : Int} (hu : -20000 ≤ u ∧ u ≤ 20000) (hv : -20000 ≤ v ∧ v ≤ 20000) : -400000000 ≤ u * v ∧ u * v ≤ 400000000 := by
  have := mul_abs hu hv; omega
theorem nrm_bd {a d : Pt} (h : nearE a d) : -800000000 ≤ nrm a d ∧ nrm a d ≤ 800000000 := by
  have h1 := mulN h.1 h.1
  have h2 := mulN h.2 h.2
  unfold nrm; omega
theorem crs_bd {b c d : Pt} (h : nearE b d) (h' : nearE c d) : -800000000 ≤ crs b c d ∧ crs b c d ≤ 800000000 := by
  have h1 := mulN h.1 h'.2
  have h2 := mulN h'.1 h.2
  unfold crs; omega
theorem term_bd {a b c d : Pt} (ha : nearE a d) (hb : nearE b d) (hc : nearE c d) : -640000000000000000 ≤ nrm a d * crs b c d ∧ nrm a d * crs b c d ≤ 640000000000000000 := by
  have := mul_abs (nrm_bd ha) (crs_bd hb hc); omega
end Go.Pv.Geo

open Go Go.Proofs Go.Pv
set_option maxHeartbeats 4000000
set_option maxRecDepth 100000
set_option linter.unusedSimpArgs false
set_option linter.unusedVariables false
namespace Go.Pv.Geo
def absE (n : Int) : Int := if n < 0 then 0 - n else n
theorem c_abs (n : Int) (h : -9223372036854775807 ≤ n) (h' : n ≤ 9223372036854775807) : Contract Tryz.prog 120 [.int .i64 n] (.ret (.int .i64 (absE n))) := by
  refine contract_of mix Tryz.func120 rfl rfl (by rw [Tryz.ntmps120]; exact Nat.le_of_ble_eq_true rfl) ?_; rw [Tryz.results120, Tryz.ntmps120]; simp only [argsE, Nat.reduceAdd]
  repeat' first
           | (with_reducible apply go_op)
           | (with_reducible apply go_next)
           | ((with_reducible (show evOp _ _ _ _ _ _)); first
             | (((with_reducible apply go_mv_int); rfl; rfl))
             | ((with_reducible apply go_as))
             | (((with_reducible apply go_cmp); rfl; rfl; rfl; rfl))
             | (((with_reducible apply go_neg); rfl; rfl; omega)))
           | ((with_reducible (show evOps _ _ _ _ _ _)); first
             | (with_reducible apply go_nil))
           | ((with_reducible (show evG _ _ _ _ _)); first
             | (with_reducible apply go_seq)
             | (with_reducible apply go_region)
             | (((with_reducible apply go_cond); rfl) <;> (intro h; simp only [h]; try simp only [decide_eq_true_eq, decide_eq_false_iff_not, Bool.not_eq_true', Bool.not_eq_false', Bool.not_true, Bool.not_false] at h; try exact absurd trivial h))
             | (with_reducible apply go_ret)
             | (with_reducible apply go_skipc))
           | (with_reducible apply go_kseq)
           | (with_reducible apply go_kseq_ret)
           | ((with_reducible apply end_int); rfl)
  all_goals (unfold absE; first | rw [if_pos (by assumption)] | rw [if_neg (by omega)])
def farP (p q : Pt) : Bool := decide (20000 < p.x - q.x ∨ 20000 < p.y - q.y)
/-- Are some of the points too far from each other? -/
def farL (l : List Pt) : Bool := l.any fun p => l.any fun q => farP p q
theorem farL_yes {l : List Pt} {i k : Nat} (hi : i < l.length) (hk : k < l.length) (h : farP l[i] l[k] = true) : farL l = true :=
  List.any_eq_true.2 ⟨_, List.getElem_mem hi, List.any_eq_true.2 ⟨_, List.getElem_mem hk, h⟩⟩
theorem farL_no {l : List Pt} (h : ∀ i (hi : i < l.length), ∀ k (hk : k < l.length), farP l[i] l[k] = false) : farL l = false := by
  simp only [farL, List.any_eq_false]
  intro p hp
  obtain ⟨i, hi, rfl⟩ := List.mem_iff_getElem.1 hp
  simp only [List.any_eq_true, not_exists, not_and]
  intro q hq
  obtain ⟨k, hk, rfl⟩ := List.mem_iff_getElem.1 hq
  rw [h i hi k hk]; simp
theorem farP_self (p : Pt) : farP p p = false := by simp [farP]

theorem near_of {a b c d : Pt} (h : farL [a, b, c, d] = false) : nearE a d ∧ nearE b d ∧ nearE c d := by
  simp [farL, farP] at h
  simp only [nearE]
  omega
/-- What InCircle answers: the place and the error. -/
def inCircE (a b c d : Pt) : Int × Int :=
  if (ptOK a && ptOK b && ptOK c && ptOK d) = false then (0, 2) else if farL [a, b, c, d] = true then (0, 8) else if signE (crossE a b c) = 0 then (0, 10) else (signE (crossE a b c) * signE (detE a b c d), 0)
end Go.Pv.Geo

open Go Go.Proofs Go.Pv
set_option maxHeartbeats 4000000
set_option maxRecDepth 100000
set_option linter.unusedSimpArgs false
set_option linter.unusedVariables false
namespace Go.Pv.Geo
theorem cellsPt : Tryz.prog.cellsOf 23 = 2 := by kernel_rfl
/-- The corner with a number, counted on from the first one. -/
def cornerP (l : List Pt) (i : Nat) : Pt := l.getD (i % l.length) ⟨0, 0⟩
theorem cornerP_get {l : List Pt} (h : 0 < l.length) (i : Nat) : cornerP l i = l[i % l.length]'(Nat.mod_lt _ h) := by
  simp [cornerP, List.getD_eq_getElem?_getD, Nat.mod_lt _ h]
theorem cornerP_mem {l : List Pt} (h : 0 < l.length) (i : Nat) : cornerP l i ∈ l := by
  rw [cornerP_get h]; exact List.getElem_mem _
theorem cornerP_lt {l : List Pt} {i : Nat} (h : i < l.length) : cornerP l i = l[i] := by
  rw [cornerP_get (by omega)]; simp only [Nat.mod_eq_of_lt h]
theorem c_corner (l : List Pt) (h0 : 0 < l.length) (hl : l.length < 1000000000000) (i : Nat) : Contract Tryz.prog 97 [.sl (l.map encPt), .int .i64 i] (.ret (.agg (encPt (cornerP l i)))) := by
  have hm := Nat.mod_lt i h0
  have e : ((i : Int) % (l.length : Int)) = ((i % l.length : Nat) : Int) := by simp
  have hlt' : 0 ≤ (i : Int) % (l.length : Int) ∧ (i : Int) % (l.length : Int) < l.length := by rw [e]; omega
  have e2 : ((i : Int) % (l.length : Int)).toNat = i % l.length := by rw [e]; rfl
  rw [cornerP_get h0]
  refine contract_of mix Tryz.func97 rfl rfl (by rw [Tryz.ntmps97]; exact Nat.le_of_ble_eq_true rfl) ?_; rw [Tryz.results97, Tryz.ntmps97]; simp only [argsE, Nat.reduceAdd]
  repeat' first
           | (with_reducible apply go_op)
           | (with_reducible apply go_next)
           | ((with_reducible (show evOp _ _ _ _ _ _)); first
             | ((with_reducible (show evOp _ (.move _) _ _ _ _)) ; first | ((with_reducible apply go_mv_int); rfl; rfl) | ((with_reducible apply go_mv_sl); rfl; rfl))
             | (((with_reducible apply go_ld_ptr); rfl; rfl; rfl))
             | (((with_reducible apply go_index); rfl; rfl; (intro; rfl); rfl; omega; intro hlt))
             | (((with_reducible apply go_rem_pos); rfl; rfl; rfl; omega))
             | (((with_reducible apply go_len); rfl; rfl))
             | (((with_reducible apply go_st_agg); rfl; rfl; rfl; rfl; rfl; rfl; rfl))
             | (((with_reducible apply go_alloc); rfl; rfl; rfl)))
           | ((with_reducible (show evOps _ _ _ _ _ _)); first
             | (with_reducible apply go_nil))
           | ((with_reducible (show evG _ _ _ _ _)); first
             | (with_reducible apply go_seq)
             | (with_reducible apply go_region)
             | (with_reducible apply go_ret))
           | (with_reducible apply go_kseq)
           | ((with_reducible apply end_agg); rfl; rfl)
  all_goals (rw [cellsPt]; simp only [e2]; rfl)
/-- A corner at which a polygon is not simple; a pair of edges that meet. -/
def ptEq (a b : Pt) : Bool := decide (a.x = b.x) && (decide (a.y = b.y) && true)
theorem ptEq_iff {a b : Pt} : ptEq a b = true ↔ a = b := by
  cases a; cases b; simp [ptEq]
def turnBad (l : List Pt) (i : Nat) : Bool := ptEq (cornerP l i) (cornerP l (i + 1)) || onE (cornerP l i) (cornerP l (i + 1)) (cornerP l (i + 2)) || onE (cornerP l (i + 1)) (cornerP l (i + 2)) (cornerP l i)
def pairBad (l : List Pt) (i k : Nat) : Bool := decide ((k + 1) % l.length ≠ i) && meetE (cornerP l i) (cornerP l (i + 1)) (cornerP l k) (cornerP l (k + 1))
def simpleE (l : List Pt) : Bool := (List.range l.length).all fun i => !turnBad l i && (List.range l.length).all fun k => !(decide (i + 2 ≤ k) && pairBad l i k)
theorem simple_turn {l : List Pt} {i : Nat} (hi : i < l.length) (h : turnBad l i = true) : simpleE l = false := by
  rw [simpleE, List.all_eq_false]
  exact ⟨i, List.mem_range.2 hi, by simp [h]⟩
theorem simple_pair {l : List Pt} {i k : Nat} (hi : i < l.length) (hk : k < l.length) (hik : i + 2 ≤ k) (h : pairBad l i k = true) : simpleE l = false := by
  rw [simpleE, List.all_eq_false]
  refine ⟨i, List.mem_range.2 hi, ?_⟩
  have : ((List.range l.length).all fun k => !(decide (i + 2 ≤ k) && pairBad l i k)) = false := by
    rw [List.all_eq_false]
    exact ⟨k, List.mem_range.2 hk, by simp [h, hik]⟩
  rw [this, Bool.and_false]; simp
theorem simple_yes {l : List Pt} (h1 : ∀ i, i < l.length → turnBad l i = false) (h2 : ∀ i, i < l.length → ∀ k, k < l.length → i + 2 ≤ k → pairBad l i k = false) : simpleE l = true := by
  rw [simpleE, List.all_eq_true]
  intro i hi
  rw [h1 i (List.mem_range.1 hi), Bool.not_false, Bool.true_and, List.all_eq_true]
  intro k hk
  by_cases hik : i + 2 ≤ k
  · rw [h2 i (List.mem_range.1 hi) k (List.mem_range.1 hk) hik, Bool.and_false]; rfl
  · simp [hik]

theorem c_simple (l : List Pt) (h3 : 3 ≤ l.length) (hl : l.length < 1000000000) (hok : ∀ q ∈ l, ptOK q = true) : Contract Tryz.prog 129 [.sl (l.map encPt)] (.ret (.bool (simpleE l))) := by
  refine contract_of mix Tryz.func129 rfl rfl (by rw [Tryz.ntmps129]; exact Nat.le_of_ble_eq_true rfl) ?_; rw [Tryz.results129, Tryz.ntmps129]; simp only [argsE, Nat.reduceAdd]
  repeat' first
           | (with_reducible apply go_op)
           | (with_reducible apply go_next)
           | ((with_reducible (show evOp _ _ _ _ _ _)); first
             | ((with_reducible (show evOp _ (.move _) _ _ _ _)) ; first | ((with_reducible apply go_mv_int); rfl; rfl) | ((with_reducible apply go_mv_bool); rfl; rfl) | ((with_reducible apply go_mv_sl); rfl; rfl))
             | ((with_reducible apply go_as))
             | (((with_reducible apply go_len); rfl; rfl)))
           | ((with_reducible (show evOps _ _ _ _ _ _)); first
             | (with_reducible apply go_nil))
           | ((with_reducible (show evG _ _ _ _ _)); first
             | (with_reducible apply go_seq)
             | (with_reducible apply go_region)
             | (with_reducible apply go_block))
           | (with_reducible apply go_kseq)
  refine go_count l.length (fun i => ⟨[(12, .int .i64 i), (11, .int .i64 l.length), (3, .int .i64 l.length), (0, .sl (l.map encPt))], [], 0, 69⟩) (fun i => ∀ j, j < i → turnBad l j = false ∧ ∀ k, k < l.length → j + 2 ≤ k → pairBad l j k = false)
    (entails_eq (nx := 0) (k := 0) (ns := []) (ks := [12, 11, 3, 0]) [] rfl (by simp) (by kernel_rfl)) (by omega) ?_
  intro i hi hC
  by_cases h2 : i < l.length
  · have h0 : 0 < l.length := by omega
    have ec := cornerP_lt h2
    have o0 : ptOK l[i] = true := hok _ (List.getElem_mem h2)
    have o1 := hok _ (cornerP_mem h0 (i + 1))
    have o2 := hok _ (cornerP_mem h0 (i + 2))
    have k1 : Contract Tryz.prog 97 [.sl (l.map encPt), .int .i64 ((i : Int) + 1)] (.ret (.agg (encPt (cornerP l (i + 1))))) := c_corner l h0 (by omega) (i + 1)
    have k2 : Contract Tryz.prog 97 [.sl (l.map encPt), .int .i64 ((i : Int) + 2)] (.ret (.agg (encPt (cornerP l (i + 2))))) := c_corner l h0 (by omega) (i + 2)
    have n1 := c_on l[i] (cornerP l (i + 1)) (cornerP l (i + 2)) o0 o1 o2
    have n2 := c_on (cornerP l (i + 1)) (cornerP l (i + 2)) l[i] o1 o2 o0
    have hbad : turnBad l i = (ptEq l[i] (cornerP l (i + 1)) || onE l[i] (cornerP l (i + 1)) (cornerP l (i + 2)) || onE (cornerP l (i + 1)) (cornerP l (i + 2)) l[i]) := by rw [turnBad, ec]
    have hst := fun h => simple_turn (l := l) h2 h
    rw [hbad] at hst
    generalize hb : cornerP l (i + 1) = b at *
    generalize hc : cornerP l (i + 2) = c at *
    have hCi : ∀ j, j < i → turnBad l j = false ∧ ∀ k, k < l.length → j + 2 ≤ k → pairBad l j k = false := hC
    repeat' first
           | (with_reducible apply go_op)
           | (with_reducible apply go_next)
           | ((with_reducible (show evOp _ _ _ _ _ _)); first
             | ((with_reducible (show evOp _ (.move _) _ _ _ _)) ; first | ((with_reducible apply go_mv_int); rfl; rfl) | ((with_reducible apply go_mv_bool); rfl; rfl) | ((with_reducible apply go_mv_sl); rfl; rfl))
             | ((with_reducible apply go_as))
             | ((with_reducible (show evOp _ (.load _ _) _ _ _ _)) ; first | ((with_reducible apply go_ld_ptr); rfl; rfl; rfl) | ((with_reducible apply go_ld_agg); rfl; rfl; rfl; rfl))
             | (((with_reducible apply go_index_nat); rfl; rfl; (with_reducible rfl); (intro; rfl); rfl; omega; (intro hlt)))
             | ((with_reducible (show evOp _ (.binOp _ _ _ _ _) _ _ _ _)) ; first | ((with_reducible apply go_cmp); rfl; rfl; rfl; rfl) | ((with_reducible apply go_add); rfl; rfl; rfl; omega) | ((with_reducible apply go_eql_agg); rfl; rfl; rfl; rfl))
             | ((with_reducible (show evOp _ (.call _) _ _ _ _)) ; first | ((with_reducible apply go_fn_plain); rfl; (exact k1); rfl; (exact Nat.le_of_ble_eq_true rfl); rfl) | ((with_reducible apply go_fn_plain); rfl; (exact k2); rfl; (exact Nat.le_of_ble_eq_true rfl); rfl) | ((with_reducible apply go_fn_bool); rfl; (exact n1); rfl) | ((with_reducible apply go_fn_bool); rfl; (exact n2); rfl))
             | (((with_reducible apply go_st_agg); rfl; rfl; rfl; rfl; rfl; rfl; rfl))
             | (((with_reducible apply go_pick); rfl; rfl; rfl))
             | (((with_reducible apply go_alloc); rfl; rfl; rfl)))
           | ((with_reducible (show evOps _ _ _ _ _ _)); first
             | (with_reducible apply go_nil)
             | ((with_reducible apply go_run); rfl; rfl)
             | ((with_reducible apply go_pass); rfl; rfl; rfl)
             | (((with_reducible apply go_guard); rfl) <;> (intro h; simp only [h, Bool.not_true, Bool.not_false]; (try with_reducible (refine ⟨rfl, ?_⟩)); try simp only [decide_eq_true_eq, decide_eq_false_iff_not, Bool.not_eq_true', Bool.not_eq_false', Bool.not_true, Bool.not_false] at h; try exact absurd trivial h))
             | ((with_reducible apply go_pre); rfl)
             | ((with_reducible apply go_pre_stop); rfl)
             | ((with_reducible apply go_suf); rfl)
             | ((with_reducible apply go_suf_stop); rfl))
           | ((with_reducible (show evG _ _ _ _ _)); first
             | (with_reducible apply go_seq)
             | (with_reducible apply go_region)
             | ((with_reducible apply go_cond_t); rfl; rfl)
             | (((with_reducible apply go_cond); rfl) <;> (intro h; simp only [h]; try simp only [decide_eq_true_eq, decide_eq_false_iff_not, Bool.not_eq_true', Bool.not_eq_false', Bool.not_true, Bool.not_false] at h; try exact absurd trivial h))
             | ((with_reducible apply go_order); kernel_rfl; rfl)
             | (with_reducible apply go_ret)
             | (with_reducible apply go_skipc)
             | (with_reducible apply go_block)
             | (with_reducible apply go_exit))
           | (with_reducible apply go_kseq)
           | (with_reducible apply go_ksuf)
           | (with_reducible apply go_kseq_ret)
           | (with_reducible apply go_kblock_ret)
           | (with_reducible apply go_kblock_exit)
           | (with_reducible apply go_kseq_exit)
           | ((with_reducible apply end_bool); rfl)
    all_goals try (exfalso; omega)
    · exact (hst (by simp [*])).symm
    · have hb0 : turnBad l i = false := by
        have e1 : ptEq l[i] b = false := ‹(decide (l[i].x = b.x) && (decide (l[i].y = b.y) && true)) = false›
        rw [hbad]; simp [*]
      refine go_count l.length (fun j => ⟨[(8, .int .i64 ((i + 2 + j : Nat) : Int)), (12, .int .i64 i), (11, .int .i64 l.length), (4, .int .i64 i), (3, .int .i64 l.length), (5, .op 0 0 0), (6, .op 1 0 0), (0, .sl (l.map encPt))], [(0, ⟨2, true, [encPt l[i]]⟩), (1, ⟨2, true, [encPt b]⟩)], 32, 69⟩) (fun j => ∀ k, k < l.length → i + 2 ≤ k → k < i + 2 + j → pairBad l i k = false)
        (entails_eq (nx := 32) (k := 0) (ns := []) (ks := [8, 12, 11, 4, 3, 5, 6, 0]) [(480, 0), (512, 1)] rfl (by simp) (by kernel_rfl)) (by omega) ?_
      intro j hj hC2
      by_cases h5 : i + 2 + j < l.length
      · have ek := cornerP_lt h5
        have q0 : ptOK (l[i + 2 + j]) = true := hok _ (List.getElem_mem h5)
        have q1 := hok _ (cornerP_mem h0 (i + 2 + j + 1))
        have k3 : Contract Tryz.prog 97 [.sl (l.map encPt), .int .i64 (((i + 2 + j : Nat) : Int) + 1)] (.ret (.agg (encPt (cornerP l (i + 2 + j + 1))))) := c_corner l h0 (by omega) (i + 2 + j + 1)
        have mt := c_meet l[i] b l[i + 2 + j] (cornerP l (i + 2 + j + 1)) o0 o1 q0 q1
        have hpb : pairBad l i (i + 2 + j) = (decide ((i + 2 + j + 1) % l.length ≠ i) && meetE l[i] b l[i + 2 + j] (cornerP l (i + 2 + j + 1))) := by rw [pairBad, ec, ek, hb]
        have hsp := fun h => simple_pair (l := l) h2 h5 (by omega) h
        rw [hpb] at hsp
        have hmod : (((i + 2 + j : Nat) : Int) + 1) % (l.length : Int) = (((i + 2 + j + 1) % l.length : Nat) : Int) := by
          rw [Int.natCast_emod]; rfl
        generalize cornerP l (i + 2 + j + 1) = d at *
        generalize hk : i + 2 + j = k at *
        repeat' first
           | (with_reducible apply go_op)
           | (with_reducible apply go_next)
           | ((with_reducible (show evOp _ _ _ _ _ _)); first
             | ((with_reducible (show evOp _ (.move _) _ _ _ _)) ; first | ((with_reducible apply go_mv_int); rfl; rfl) | ((with_reducible apply go_mv_bool); rfl; rfl) | ((with_reducible apply go_mv_sl); rfl; rfl))
             | ((with_reducible apply go_as))
             | ((with_reducible (show evOp _ (.load _ _) _ _ _ _)) ; first | ((with_reducible apply go_ld_ptr); rfl; rfl; rfl) | ((with_reducible apply go_ld_agg); rfl; rfl; rfl; rfl))
             | (((with_reducible apply go_index_nat); rfl; rfl; (with_reducible rfl); (intro; rfl); rfl; omega; (intro hlt)))
             | ((with_reducible (show evOp _ (.binOp _ _ _ _ _) _ _ _ _)) ; first | ((with_reducible apply go_cmp); rfl; rfl; rfl; rfl) | ((with_reducible apply go_add); rfl; rfl; rfl; omega) | ((with_reducible apply go_rem_pos); rfl; rfl; rfl; omega))
             | ((with_reducible (show evOp _ (.call _) _ _ _ _)) ; first | ((with_reducible apply go_fn_plain); rfl; (exact k3); rfl; (exact Nat.le_of_ble_eq_true rfl); rfl) | ((with_reducible apply go_fn_bool); rfl; (exact mt); rfl))
             | (((with_reducible apply go_pick); rfl; rfl; rfl)))
           | ((with_reducible (show evOps _ _ _ _ _ _)); first
             | (with_reducible apply go_nil)
             | ((with_reducible apply go_run); rfl; rfl)
             | ((with_reducible apply go_pass); rfl; rfl; rfl)
             | (((with_reducible apply go_guard); rfl) <;> (intro h; simp only [h, Bool.not_true, Bool.not_false]; (try with_reducible (refine ⟨rfl, ?_⟩)); try simp only [decide_eq_true_eq, decide_eq_false_iff_not, Bool.not_eq_true', Bool.not_eq_false', Bool.not_true, Bool.not_false] at h; try exact absurd trivial h))
             | ((with_reducible apply go_pre); rfl)
             | (with_reducible apply go_pre_nil)
             | ((with_reducible apply go_suf); rfl)
             | (with_reducible apply go_suf_nil))
           | ((with_reducible (show evG _ _ _ _ _)); first
             | (with_reducible apply go_seq)
             | (with_reducible apply go_region)
             | ((with_reducible apply go_cond_f); rfl; rfl)
             | (((with_reducible apply go_cond); rfl) <;> (intro h; simp only [h]; try simp only [decide_eq_true_eq, decide_eq_false_iff_not, Bool.not_eq_true', Bool.not_eq_false', Bool.not_true, Bool.not_false] at h; try exact absurd trivial h))
             | ((with_reducible apply go_order); kernel_rfl; rfl)
             | (with_reducible apply go_ret)
             | (with_reducible apply go_skipc)
             | (with_reducible apply go_block)
             | (with_reducible apply go_exit))
           | (with_reducible apply go_kseq)
           | (with_reducible apply go_ksuf)
           | (with_reducible apply go_kseq_ret)
           | (with_reducible apply go_kblock)
           | (with_reducible apply go_kblock_ret)
           | (with_reducible apply go_kblock_exit)
           | (with_reducible apply go_kseq_exit)
           | ((with_reducible apply end_bool); rfl)
        all_goals first
          | (exfalso; omega)
          | (refine (hsp ?_).symm
             simp only [Bool.and_eq_true, decide_eq_true_eq]
             exact ⟨by omega, by assumption⟩)
          | (refine ⟨by omega, fun k' hk' hk2 hk3 => ?_, ?_⟩
             · by_cases hlast : k' < k
               · exact hC2 k' hk' hk2 (by omega)
               · have : k' = k := by omega
                 subst this
                 rw [hpb]
                 by_cases hm2 : (k' + 1) % l.length = i
                 · simp only [hm2, ne_eq, not_true_eq_false, decide_false, Bool.false_and]
                 · have : meetE l[i] b l[k'] d = false := by first | assumption | (exfalso; omega)
                   rw [this, Bool.and_false]
             · rw [show i + 2 + (j + 1) = k + 1 by omega]
               exact entails_eq (nx := 32) (k := 0) (ns := []) (ks := [8, 12, 11, 4, 3, 5, 6, 0]) [(0, 0), (1, 1)] rfl (by simp) (by kernel_rfl))
          | trace_state
      · repeat' first
           | (with_reducible apply go_op)
           | (with_reducible apply go_next)
           | ((with_reducible (show evOp _ _ _ _ _ _)); first
             | ((with_reducible (show evOp _ (.move _) _ _ _ _)) ; first | ((with_reducible apply go_mv_int); rfl; rfl) | ((with_reducible apply go_mv_bool); rfl; rfl) | ((with_reducible apply go_mv_sl); rfl; rfl))
             | ((with_reducible apply go_as))
             | ((with_reducible (show evOp _ (.load _ _) _ _ _ _)) ; first | ((with_reducible apply go_ld_ptr); rfl; rfl; rfl) | ((with_reducible apply go_ld_agg); rfl; rfl; rfl; rfl))
             | (((with_reducible apply go_index_nat); rfl; rfl; (with_reducible rfl); (intro; rfl); rfl; omega; (intro hlt)))
             | ((with_reducible (show evOp _ (.binOp _ _ _ _ _) _ _ _ _)) ; first | ((with_reducible apply go_cmp); rfl; rfl; rfl; rfl) | ((with_reducible apply go_add); rfl; rfl; rfl; omega) | ((with_reducible apply go_rem_pos); rfl; rfl; rfl; omega))
             | (((with_reducible apply go_pick); rfl; rfl; rfl)))
           | ((with_reducible (show evOps _ _ _ _ _ _)); first
             | (with_reducible apply go_nil)
             | ((with_reducible apply go_run); rfl; rfl)
             | ((with_reducible apply go_pass); rfl; rfl; rfl)
             | (((with_reducible apply go_guard); rfl) <;> (intro h; simp only [h, Bool.not_true, Bool.not_false]; (try with_reducible (refine ⟨rfl, ?_⟩)); try simp only [decide_eq_true_eq, decide_eq_false_iff_not, Bool.not_eq_true', Bool.not_eq_false', Bool.not_true, Bool.not_false] at h; try exact absurd trivial h))
             | ((with_reducible apply go_pre); rfl)
             | (with_reducible apply go_pre_nil)
             | ((with_reducible apply go_suf); rfl)
             | (with_reducible apply go_suf_nil))
           | ((with_reducible (show evG _ _ _ _ _)); first
             | (with_reducible apply go_seq)
             | (with_reducible apply go_region)
             | ((with_reducible apply go_cond_f); rfl; rfl)
             | (((with_reducible apply go_cond); rfl) <;> (intro h; simp only [h]; try simp only [decide_eq_true_eq, decide_eq_false_iff_not, Bool.not_eq_true', Bool.not_eq_false', Bool.not_true, Bool.not_false] at h; try exact absurd trivial h))
             | ((with_reducible apply go_order); kernel_rfl; rfl)
             | (with_reducible apply go_skipc)
             | (with_reducible apply go_block)
             | (with_reducible apply go_exit))
           | (with_reducible apply go_kseq)
           | (with_reducible apply go_ksuf)
           | (with_reducible apply go_kblock)
           | (with_reducible apply go_kblock_exit)
           | (with_reducible apply go_kseq_exit)
        all_goals first
          | (exfalso; omega)
          | (refine ⟨h2, fun j' hj' => ?_, entails_eq (nx := 0) (k := 0) (ns := []) (ks := [12, 11, 3, 0]) [] rfl (by simp) (by kernel_rfl)⟩
             rcases Nat.lt_succ_iff_lt_or_eq.1 hj' with h' | rfl
             · exact hCi j' h'
             · exact ⟨hb0, fun k hk hik => hC2 k hk hik (by omega)⟩)
          | trace_state
    · exact (hst (by simp [*])).symm
    · have e1 : ptEq l[i] b = true := ‹(decide (l[i].x = b.x) && (decide (l[i].y = b.y) && true)) = true›
      exact (hst (by simp [*])).symm
  · repeat' first
           | (with_reducible apply go_op)
           | (with_reducible apply go_next)
           | ((with_reducible (show evOp _ _ _ _ _ _)); first
             | ((with_reducible (show evOp _ (.move _) _ _ _ _)) ; first | ((with_reducible apply go_mv_int); rfl; rfl) | ((with_reducible apply go_mv_bool); rfl; rfl) | ((with_reducible apply go_mv_sl); rfl; rfl))
             | ((with_reducible apply go_as))
             | (((with_reducible apply go_ld_ptr); rfl; rfl; rfl))
             | (((with_reducible apply go_index_nat); rfl; rfl; (with_reducible rfl); (intro; rfl); rfl; omega; (intro hlt)))
             | ((with_reducible (show evOp _ (.binOp _ _ _ _ _) _ _ _ _)) ; first | ((with_reducible apply go_cmp); rfl; rfl; rfl; rfl) | ((with_reducible apply go_add); rfl; rfl; rfl; omega)))
           | ((with_reducible (show evOps _ _ _ _ _ _)); first
             | (with_reducible apply go_nil)
             | ((with_reducible apply go_pre); rfl))
           | ((with_reducible (show evG _ _ _ _ _)); first
             | (with_reducible apply go_seq)
             | (with_reducible apply go_region)
             | (((with_reducible apply go_cond); rfl) <;> (intro h; simp only [h]; try simp only [decide_eq_true_eq, decide_eq_false_iff_not, Bool.not_eq_true', Bool.not_eq_false', Bool.not_true, Bool.not_false] at h; try exact absurd trivial h))
             | ((with_reducible apply go_order); kernel_rfl; rfl)
             | (with_reducible apply go_ret)
             | (with_reducible apply go_skipc)
             | (with_reducible apply go_block)
             | (with_reducible apply go_exit))
           | (with_reducible apply go_kseq)
           | (with_reducible apply go_kblock_exit)
           | (with_reducible apply go_kseq_exit)
           | ((with_reducible apply end_bool); rfl)
    all_goals first
      | (exfalso; omega)
      | exact (simple_yes (fun j hj => (hC j (by omega)).1) fun j hj k hk hjk => (hC j (by omega)).2 k hk hjk).symm
      | trace_state
end Go.Pv.Geo

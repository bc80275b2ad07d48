import Derived.Test.YtdedpndkohfgbaaGreatProg
import Derived.Test.YtdedpndkohfgbaaGreatKAF
import Derived.Test.YtdedpndkohfgbaaGreatKAE
import Derived.Test.YtdedpndkohfgbaaGreatKAD
import Derived.KernelRfl
import Derived.Test.YtdedpndkohfgbaaGreatKAC
/- Part of the proofs over YtdedpndkohfgbaaGreat: U6, U8, PH1, PH2, PH3, PH4, PH20, PH21, PHZ, V4, V5, U10. -/
set_option linter.unusedVariables false
set_option linter.unusedSimpArgs false
set_option linter.unnecessarySimpa false
open Go Go.Proofs Go.Pv Go.Shelf
set_option maxHeartbeats 4000000
set_option maxRecDepth 100000
set_option linter.unusedVariables false
namespace Go.Pv.Soil
def encRule (num den least : Int) : List D := [.int .i64 num, .int .i64 den, .int .i64 least]
theorem repP_int {w : World} {pu : Nat → Prop} {v : Value} {k : IntKind} {n : Int} (h : RepP w pu v (.int k n)) : v = .int k n := by cases h; rfl
theorem c_ranked (l : List Int) (num den least : Int) (hn : 0 < l.length) (h60 : l.length ≤ 60) (hl : least ≤ l.length) (hd : 1 ≤ den ∧ den ≤ 1000) (hnum : 1 ≤ num ∧ num ≤ den) :
    Contract Tryz.prog 63 [.sl (l.map encInt), .agg (encRule num den least)] (.ret (.tup [.int .i64 (rankI l num den), .int .i64 0])) := by
  refine ⟨⟨_, Tryz.func63, by kernel_rfl, by kernel_rfl⟩, fun S w args hS ⟨hsz, hrep⟩ => ?_⟩
  obtain ⟨v0, v1, rfl⟩ : ∃ v0 v1, args = #[v0, v1] := by
    match args, hsz with
    | ⟨[a, b]⟩, _ => exact ⟨a, b, rfl⟩
  have h0 := hrep 0 v0 _ rfl rfl
  have h1 := hrep 1 v1 _ rfl rfl
  obtain ⟨vs, rfl, hvl, hv⟩ : ∃ vs, v1 = .agg vs ∧ vs.size = 3 ∧ ∀ (i : Nat) (v : Value) (d : D), vs[i]? = some v → (encRule num den least)[i]? = some d → RepP w S v d := by
    cases h1 with
    | agg vs cs hl h => exact ⟨vs, rfl, hl, h⟩
  obtain ⟨a, b, c, rfl⟩ : ∃ a b c, vs = #[a, b, c] := by
    match vs, hvl with
    | ⟨[a, b, c]⟩, _ => exact ⟨a, b, c, rfl⟩
  have ea := repP_int (hv 0 a _ rfl rfl)
  have eb := repP_int (hv 1 b _ rfl rfl)
  have ec := repP_int (hv 2 c _ rfl rfl)
  subst ea eb ec
  obtain ⟨blk, off, cap, rfl, hlt, hc⟩ : ∃ blk off cap, v0 = .slice (some ⟨blk, off, none⟩) l.length cap ∧ blk < w.heap.size ∧ ∀ j, j < l.length → w.cell? ⟨blk, off + j, none⟩ = some (.int .i64 (l[j]?.getD 0)) := by
    generalize hrows : l.map encInt = rows at h0
    have hrl : rows.length = l.length := by rw [← hrows, List.length_map]
    cases h0 with
    | sl a cap rows k f hc hk hm h =>
      obtain ⟨blk, off, rfl, hp, hcell⟩ := hm (fun e => by rw [e] at hrl; simp at hrl; omega)
      refine ⟨blk, off, cap, by rw [hrl], hS _ hp, fun j hj => ?_⟩
      have hj' : j < rows.length := by omega
      have hk1 : k = 1 := by
        have := hk (rows[j]) (List.getElem_mem hj')
        have e : rows[j] = [D.int .i64 l[j]] := by subst hrows; simp [encInt]
        rw [e] at this; simpa using this.symm
      subst hk1
      have h3 := hcell j 0 hj' (by omega)
      have h4 := repP_int (h j 0 (.int .i64 l[j]) (by subst hrows; simp [cellAt, hj, encInt]))
      rw [h4] at h3
      rw [List.getElem?_eq_getElem hj]
      simpa using h3
  refine (callsIn_wide.1 (ranked_in Fence.wide trivial trivial trivial trivial trivial trivial trivial rfl (sorts _) blk off cap l num den least hn h60 hl hd hnum w hlt hc)).mono ?_
  rintro e w' ⟨rfl, hb⟩
  have hb' : Below w.heap.size w w' := ⟨hb.os, hb.tape, hb.output, hb.size, hb.block, Draws.any _ _⟩
  refine ⟨hb', fun _ => False, fun g h => h.elim, _, rfl, fun n => ⟨fun _ => .pending, ⟨fun b blk hb => by simp [adopt, adT, adE, adC, lkH] at hb, fun b _ => .inr rfl, fun b b' g h => h.elim, fun b g h => h.elim, fun g h => h.elim⟩, ?_, fun b _ => rfl⟩⟩
  refine .tup _ _ rfl fun i v d e1 e2 => ?_
  match i with
  | 0 => injection e1 with e1; injection e2 with e2; subst e1; subst e2; exact .pure _ _ (.int _ _)
  | 1 => injection e1 with e1; injection e2 with e2; subst e1; subst e2; exact .pure _ _ (.int _ _)
  | i + 2 => exact absurd e1 (by simp)
theorem c_few (l : List Int) (num den least : Int) (h60 : l.length ≤ 60) (hl : (l.length : Int) < least) :
    Contract Tryz.prog 63 [.sl (l.map encInt), .agg (encRule num den least)] (.ret (.tup [.int .i64 0, .int .i64 11])) := by
  refine contract_of mix Tryz.func63 rfl rfl (by rw [Tryz.ntmps63]; exact Nat.le_of_ble_eq_true rfl) ?_; rw [Tryz.results63, Tryz.ntmps63]; simp only [argsE, Nat.reduceAdd]
  repeat' first
           | (with_reducible apply go_op)
           | (with_reducible apply go_next)
           | ((with_reducible (show evOp _ _ _ _ _ _)); first
             | ((with_reducible (show evOp _ (.move _) _ _ _ _)) ; first | ((with_reducible apply go_mv_int); rfl; rfl) | ((with_reducible apply go_mv_sl); rfl; rfl))
             | ((with_reducible apply go_as))
             | (((with_reducible apply go_load_own); rfl; rfl; rfl; rfl))
             | (((with_reducible apply go_fieldAddr_own); rfl; rfl; rfl))
             | (((with_reducible apply go_cmp); rfl; rfl; rfl; rfl))
             | (((with_reducible apply go_len); rfl; rfl))
             | (((with_reducible apply go_bx_agg); rfl; rfl; (exact Nat.le_of_ble_eq_true rfl); rfl; rfl)))
           | ((with_reducible (show evOps _ _ _ _ _ _)); first
             | (with_reducible apply go_nil))
           | ((with_reducible (show evG _ _ _ _ _)); first
             | (with_reducible apply go_seq)
             | (with_reducible apply go_region)
             | (((with_reducible apply go_cond); rfl) <;> (intro h; simp only [h]; try simp only [decide_eq_true_eq, decide_eq_false_iff_not, Bool.not_eq_true', Bool.not_eq_false', Bool.not_true, Bool.not_false] at h; try exact absurd trivial h))
             | (with_reducible apply go_ret)
             | (with_reducible apply go_skipc))
           | (with_reducible apply go_kseq)
           | (with_reducible apply go_kseq_ret)
           | ((with_reducible apply end_t2); rfl; rfl; rfl; rfl)
  all_goals first | rfl | (exfalso; omega)
end Go.Pv.Soil

open Go Go.Proofs Go.Pv
set_option maxHeartbeats 4000000
set_option maxRecDepth 100000
set_option linter.unusedSimpArgs false
set_option linter.unusedVariables false
namespace Go.Pv.Soil
theorem scalIntU : ScalF encInt 1 := fun _ => ⟨rfl, rfl⟩
theorem c70u (l : List Int) (hl : l.length ≤ 1000000000) : Contract Tryz.prog 81 [.sl (l.map encInt)] (.ret (.fr 1 (l.map encInt))) := by
  refine contract_of mix Tryz.func81 rfl rfl (by rw [Tryz.ntmps81]; exact Nat.le_of_ble_eq_true rfl) ?_; rw [Tryz.results81, Tryz.ntmps81]; simp only [argsE, Nat.reduceAdd]
  repeat' first
           | (with_reducible apply go_op)
           | (with_reducible apply go_next)
           | ((with_reducible (show evOp _ _ _ _ _ _)); first
             | ((with_reducible (show evOp _ (.move _) _ _ _ _)) ; first | ((with_reducible apply go_mv_sl); rfl; rfl) | ((with_reducible apply go_mv_nilsl); rfl; rfl))
             | ((with_reducible apply go_as))
             | (((with_reducible apply go_bs0); rfl)))
           | ((with_reducible (show evOps _ _ _ _ _ _)); first
             | (with_reducible apply go_nil))
           | ((with_reducible (show evG _ _ _ _ _)); first
             | (with_reducible apply go_seq)
             | (with_reducible apply go_region))
           | (with_reducible apply go_kseq)
  refine go_app_sl (f := encInt) scalIntU rfl rfl rfl (fun _ => rfl) (by kernel_rfl) (by kernel_rfl) hl rfl ?_
  repeat' first
           | (with_reducible apply go_op)
           | (with_reducible apply go_next)
           | ((with_reducible (show evOp _ _ _ _ _ _)); first
             | (((with_reducible apply go_mv_os); rfl; rfl))
             | ((with_reducible apply go_as)))
           | ((with_reducible (show evOps _ _ _ _ _ _)); first
             | (with_reducible apply go_nil))
           | ((with_reducible (show evG _ _ _ _ _)); first
             | (with_reducible apply go_ret))
           | (with_reducible apply go_kseq)
  exact end_frn rfl rfl rfl rfl
theorem c_ruleErr (num den least : Int) : Contract Tryz.prog 55 [.agg (encRule num den least)] (.ret (.int .i64 (if ruleOK num den least then 0 else 2))) := by
  refine contract_of mix Tryz.func55 rfl rfl (by rw [Tryz.ntmps55]; exact Nat.le_of_ble_eq_true rfl) ?_; rw [Tryz.results55, Tryz.ntmps55]; simp only [argsE, Nat.reduceAdd]
  repeat' first
           | (with_reducible apply go_op)
           | (with_reducible apply go_next)
           | ((with_reducible (show evOp _ _ _ _ _ _)); first
             | ((with_reducible (show evOp _ (.move _) _ _ _ _)) ; first | ((with_reducible apply go_mv_int); rfl; rfl) | ((with_reducible apply go_mv_bool); rfl; rfl))
             | ((with_reducible apply go_as))
             | (((with_reducible apply go_load_own); rfl; rfl; rfl; rfl))
             | (((with_reducible apply go_fieldAddr_own); rfl; rfl; rfl))
             | (((with_reducible apply go_fn_bool); rfl; (exact c108 _ _ _); rfl))
             | (((with_reducible apply go_not); rfl; rfl))
             | (((with_reducible apply go_pick); rfl; rfl; rfl))
             | (((with_reducible apply go_bx_agg); rfl; rfl; (exact Nat.le_of_ble_eq_true rfl); rfl; rfl)))
           | ((with_reducible (show evOps _ _ _ _ _ _)); first
             | (with_reducible apply go_nil)
             | ((with_reducible apply go_run); rfl; rfl)
             | ((with_reducible apply go_pass); rfl; rfl; rfl)
             | (((with_reducible apply go_guard); rfl) <;> (intro h; simp only [h, Bool.not_true, Bool.not_false]; (try with_reducible (refine ⟨rfl, ?_⟩)); try simp only [decide_eq_true_eq, decide_eq_false_iff_not, Bool.not_eq_true', Bool.not_eq_false', Bool.not_true, Bool.not_false] at h; try exact absurd trivial h)))
           | ((with_reducible (show evG _ _ _ _ _)); first
             | (with_reducible apply go_seq)
             | (with_reducible apply go_region)
             | ((with_reducible apply go_cond_t); rfl; rfl)
             | (((with_reducible apply go_cond); rfl) <;> (intro h; simp only [h]; try simp only [decide_eq_true_eq, decide_eq_false_iff_not, Bool.not_eq_true', Bool.not_eq_false', Bool.not_true, Bool.not_false] at h; try exact absurd trivial h))
             | (with_reducible apply go_ret)
             | (with_reducible apply go_skipc))
           | (with_reducible apply go_kseq)
           | (with_reducible apply go_kseq_ret)
           | ((with_reducible apply end_int); rfl)
  all_goals (unfold ruleOK; first | (rw [if_pos (by simp; omega)]; done) | (rw [if_neg (by simp; omega)]; done) | trace_state)
theorem c_inV (n : Int) : Contract Tryz.prog 62 [.int .i64 n] (.ret (.bool (!inV n))) := by
  refine contract_of mix Tryz.func62 rfl rfl (by rw [Tryz.ntmps62]; exact Nat.le_of_ble_eq_true rfl) ?_; rw [Tryz.results62, Tryz.ntmps62]; simp only [argsE, Nat.reduceAdd]
  repeat' first
           | (with_reducible apply go_op)
           | (with_reducible apply go_next)
           | ((with_reducible (show evOp _ _ _ _ _ _)); first
             | ((with_reducible (show evOp _ (.move _) _ _ _ _)) ; first | ((with_reducible apply go_mv_int); rfl; rfl) | ((with_reducible apply go_mv_bool); rfl; rfl))
             | ((with_reducible apply go_as))
             | (((with_reducible apply go_fn_bool); rfl; (exact c108 _ _ _); rfl))
             | (((with_reducible apply go_not); rfl; rfl)))
           | ((with_reducible (show evOps _ _ _ _ _ _)); first
             | (with_reducible apply go_nil))
           | ((with_reducible (show evG _ _ _ _ _)); first
             | (with_reducible apply go_seq)
             | (with_reducible apply go_region)
             | (with_reducible apply go_ret))
           | (with_reducible apply go_kseq)
           | ((with_reducible apply end_bool); rfl)
  all_goals (unfold inV; first | rfl | trace_state)
/-- Values in range are in range one by one. -/
theorem any_not (l : List Int) : (l.any fun n => !inV n) = !l.all inV := by
  rw [List.not_all_eq_any_not]
theorem c_Ranked (l : List Int) (hl : l.length ≤ 65) (num den least : Int) :
    Contract Tryz.prog 24 [.sl (l.map encInt), .agg (encRule num den least)] (.ret (.tup [.int .i64 (rankedR l num den least).1, .int .i64 (rankedR l num den least).2])) := by
  unfold rankedR
  cases hr : ruleOK num den least with
  | false =>
    rw [if_pos rfl]
    have hc := c_ruleErr num den least
    rw [hr, if_neg (by simp)] at hc
    refine contract_of mix Tryz.func24 rfl rfl (by rw [Tryz.ntmps24]; exact Nat.le_of_ble_eq_true rfl) ?_; rw [Tryz.results24, Tryz.ntmps24]; simp only [argsE, Nat.reduceAdd]
    repeat' first
           | (with_reducible apply go_op)
           | (with_reducible apply go_next)
           | ((with_reducible (show evOp _ _ _ _ _ _)); first
             | (((with_reducible apply go_mv_int); rfl; rfl))
             | ((with_reducible apply go_as))
             | (((with_reducible apply go_ld_agg); rfl; rfl; rfl; rfl))
             | (((with_reducible apply go_cmp); rfl; rfl; rfl; rfl))
             | (((with_reducible apply go_fn_int); rfl; (exact hc); rfl))
             | (((with_reducible apply go_bx_agg); rfl; rfl; (exact Nat.le_of_ble_eq_true rfl); rfl; rfl)))
           | ((with_reducible (show evOps _ _ _ _ _ _)); first
             | (with_reducible apply go_nil))
           | ((with_reducible (show evG _ _ _ _ _)); first
             | (with_reducible apply go_seq)
             | (with_reducible apply go_region)
             | ((with_reducible apply go_cond_t); rfl; rfl)
             | (with_reducible apply go_ret))
           | (with_reducible apply go_kseq)
           | (with_reducible apply go_kseq_ret)
           | ((with_reducible apply end_t2); rfl; rfl; rfl; rfl)
    all_goals first | rfl | (exfalso; omega) | trace_state
  | true =>
    rw [if_neg (by simp)]
    have hc := c_ruleErr num den least
    rw [hr, if_pos rfl] at hc
    by_cases h60 : 60 < l.length
    · rw [if_pos h60]
      refine contract_of mix Tryz.func24 rfl rfl (by rw [Tryz.ntmps24]; exact Nat.le_of_ble_eq_true rfl) ?_; rw [Tryz.results24, Tryz.ntmps24]; simp only [argsE, Nat.reduceAdd]
      repeat' first
           | (with_reducible apply go_op)
           | (with_reducible apply go_next)
           | ((with_reducible (show evOp _ _ _ _ _ _)); first
             | ((with_reducible (show evOp _ (.move _) _ _ _ _)) ; first | ((with_reducible apply go_mv_int); rfl; rfl) | ((with_reducible apply go_mv_sl); rfl; rfl))
             | ((with_reducible apply go_as))
             | (((with_reducible apply go_ld_agg); rfl; rfl; rfl; rfl))
             | (((with_reducible apply go_cmp); rfl; rfl; rfl; rfl))
             | ((with_reducible (show evOp _ (.call _) _ _ _ _)) ; first | ((with_reducible apply go_len); rfl; rfl) | ((with_reducible apply go_fn_int); rfl; (exact hc); rfl))
             | (((with_reducible apply go_bx_agg); rfl; rfl; (exact Nat.le_of_ble_eq_true rfl); rfl; rfl)))
           | ((with_reducible (show evOps _ _ _ _ _ _)); first
             | (with_reducible apply go_nil))
           | ((with_reducible (show evG _ _ _ _ _)); first
             | (with_reducible apply go_seq)
             | (with_reducible apply go_region)
             | ((with_reducible apply go_cond_f); rfl; rfl)
             | (((with_reducible apply go_cond); rfl) <;> (intro h; simp only [h]; try simp only [decide_eq_true_eq, decide_eq_false_iff_not, Bool.not_eq_true', Bool.not_eq_false', Bool.not_true, Bool.not_false] at h; try exact absurd trivial h))
             | (with_reducible apply go_ret)
             | (with_reducible apply go_skipc))
           | (with_reducible apply go_kseq)
           | (with_reducible apply go_kseq_ret)
           | ((with_reducible apply end_t2); rfl; rfl; rfl; rfl)
      all_goals first | rfl | (exfalso; omega) | trace_state
    · rw [if_neg h60]
      by_cases hv : l.all inV = false
      · rw [if_pos hv]
        refine contract_of mix Tryz.func24 rfl rfl (by rw [Tryz.ntmps24]; exact Nat.le_of_ble_eq_true rfl) ?_; rw [Tryz.results24, Tryz.ntmps24]; simp only [argsE, Nat.reduceAdd]
        repeat' first
           | (with_reducible apply go_op)
           | (with_reducible apply go_next)
           | ((with_reducible (show evOp _ _ _ _ _ _)); first
             | ((with_reducible (show evOp _ (.move _) _ _ _ _)) ; first | ((with_reducible apply go_mv_int); rfl; rfl) | ((with_reducible apply go_mv_sl); rfl; rfl))
             | ((with_reducible apply go_as))
             | (((with_reducible apply go_ld_agg); rfl; rfl; rfl; rfl))
             | (((with_reducible apply go_cmp); rfl; rfl; rfl; rfl))
             | ((with_reducible (show evOp _ (.call _) _ _ _ _)) ; first | ((with_reducible apply go_len); rfl; rfl) | ((with_reducible apply go_fn_int); rfl; (exact hc); rfl))
             | (((with_reducible apply go_bx_agg); rfl; rfl; (exact Nat.le_of_ble_eq_true rfl); rfl; rfl)))
           | ((with_reducible (show evOps _ _ _ _ _ _)); first
             | (with_reducible apply go_nil))
           | ((with_reducible (show evG _ _ _ _ _)); first
             | (with_reducible apply go_seq)
             | (with_reducible apply go_region)
             | ((with_reducible apply go_cond_f); rfl; rfl)
             | (((with_reducible apply go_cond); rfl) <;> (intro h; simp only [h]; try simp only [decide_eq_true_eq, decide_eq_false_iff_not, Bool.not_eq_true', Bool.not_eq_false', Bool.not_true, Bool.not_false] at h; try exact absurd trivial h))
             | (with_reducible apply go_ret)
             | (with_reducible apply go_skipc))
           | (with_reducible apply go_kseq)
           | (with_reducible apply go_kseq_ret)
           | ((with_reducible apply end_t2); rfl; rfl; rfl; rfl)
        all_goals try (exfalso; omega)
        refine go_fn_bool (args' := [.sl (l.map encInt), .clo (.func 62) [] []]) rfl (c124 l (by omega) 62 (fun n => !inV n) fun x _ => c_inV x) rfl ?_
        rw [any_not, hv]
        repeat' first
           | (with_reducible apply go_op)
           | (with_reducible apply go_next)
           | ((with_reducible (show evOp _ _ _ _ _ _)); first
             | (((with_reducible apply go_mv_int); rfl; rfl))
             | ((with_reducible apply go_as)))
           | ((with_reducible (show evOps _ _ _ _ _ _)); first
             | (with_reducible apply go_nil))
           | ((with_reducible (show evG _ _ _ _ _)); first
             | (with_reducible apply go_seq)
             | (with_reducible apply go_region)
             | ((with_reducible apply go_cond_t); rfl; rfl)
             | (with_reducible apply go_ret))
           | (with_reducible apply go_kseq)
           | (with_reducible apply go_kseq_ret)
           | ((with_reducible apply end_t2); rfl; rfl; rfl; rfl)
        all_goals first | rfl | trace_state
      · rw [if_neg hv]
        have hv' : l.all inV = true := by simpa using hv
        have hrule : (1 ≤ den ∧ den ≤ 1000) ∧ (1 ≤ num ∧ num ≤ den) ∧ 1 ≤ least ∧ least ≤ 60 := of_decide_eq_true hr
        by_cases hfew : (l.length : Int) < least
        · rw [if_pos hfew]
          refine contract_of mix Tryz.func24 rfl rfl (by rw [Tryz.ntmps24]; exact Nat.le_of_ble_eq_true rfl) ?_; rw [Tryz.results24, Tryz.ntmps24]; simp only [argsE, Nat.reduceAdd]
          repeat' first
           | (with_reducible apply go_op)
           | (with_reducible apply go_next)
           | ((with_reducible (show evOp _ _ _ _ _ _)); first
             | ((with_reducible (show evOp _ (.move _) _ _ _ _)) ; first | ((with_reducible apply go_mv_int); rfl; rfl) | ((with_reducible apply go_mv_sl); rfl; rfl))
             | ((with_reducible apply go_as))
             | (((with_reducible apply go_ld_agg); rfl; rfl; rfl; rfl))
             | (((with_reducible apply go_cmp); rfl; rfl; rfl; rfl))
             | ((with_reducible (show evOp _ (.call _) _ _ _ _)) ; first | ((with_reducible apply go_len); rfl; rfl) | ((with_reducible apply go_fn_int); rfl; (exact hc); rfl))
             | (((with_reducible apply go_bx_agg); rfl; rfl; (exact Nat.le_of_ble_eq_true rfl); rfl; rfl)))
           | ((with_reducible (show evOps _ _ _ _ _ _)); first
             | (with_reducible apply go_nil))
           | ((with_reducible (show evG _ _ _ _ _)); first
             | (with_reducible apply go_seq)
             | (with_reducible apply go_region)
             | ((with_reducible apply go_cond_f); rfl; rfl)
             | (((with_reducible apply go_cond); rfl) <;> (intro h; simp only [h]; try simp only [decide_eq_true_eq, decide_eq_false_iff_not, Bool.not_eq_true', Bool.not_eq_false', Bool.not_true, Bool.not_false] at h; try exact absurd trivial h))
             | (with_reducible apply go_ret)
             | (with_reducible apply go_skipc))
           | (with_reducible apply go_kseq)
           | (with_reducible apply go_kseq_ret)
           | ((with_reducible apply end_t2); rfl; rfl; rfl; rfl)
          all_goals try (exfalso; omega)
          refine go_fn_bool (args' := [.sl (l.map encInt), .clo (.func 62) [] []]) rfl (c124 l (by omega) 62 (fun n => !inV n) fun x _ => c_inV x) rfl ?_
          rw [any_not, hv']
          repeat' first
           | (with_reducible apply go_op)
           | (with_reducible apply go_next)
           | ((with_reducible (show evOp _ _ _ _ _ _)); first
             | ((with_reducible (show evOp _ (.move _) _ _ _ _)) ; first | ((with_reducible apply go_mv_int); rfl; rfl) | ((with_reducible apply go_mv_sl); rfl; rfl))
             | ((with_reducible apply go_as))
             | (((with_reducible apply go_ld_agg); rfl; rfl; rfl; rfl))
             | (((with_reducible apply go_fn_plain); rfl; (exact c_few l num den least (by omega) hfew); rfl; (exact Nat.le_of_ble_eq_true rfl); rfl))
             | (((with_reducible apply go_extract); rfl; rfl)))
           | ((with_reducible (show evOps _ _ _ _ _ _)); first
             | (with_reducible apply go_nil))
           | ((with_reducible (show evG _ _ _ _ _)); first
             | (with_reducible apply go_seq)
             | (with_reducible apply go_region)
             | ((with_reducible apply go_cond_f); rfl; rfl)
             | (with_reducible apply go_ret)
             | (with_reducible apply go_skipc))
           | (with_reducible apply go_kseq)
           | ((with_reducible apply end_t2); rfl; rfl; rfl; rfl)
          all_goals first | rfl | trace_state
        · rw [if_neg hfew]
          refine contract_of mix Tryz.func24 rfl rfl (by rw [Tryz.ntmps24]; exact Nat.le_of_ble_eq_true rfl) ?_; rw [Tryz.results24, Tryz.ntmps24]; simp only [argsE, Nat.reduceAdd]
          repeat' first
           | (with_reducible apply go_op)
           | (with_reducible apply go_next)
           | ((with_reducible (show evOp _ _ _ _ _ _)); first
             | ((with_reducible (show evOp _ (.move _) _ _ _ _)) ; first | ((with_reducible apply go_mv_int); rfl; rfl) | ((with_reducible apply go_mv_sl); rfl; rfl))
             | ((with_reducible apply go_as))
             | (((with_reducible apply go_ld_agg); rfl; rfl; rfl; rfl))
             | (((with_reducible apply go_cmp); rfl; rfl; rfl; rfl))
             | ((with_reducible (show evOp _ (.call _) _ _ _ _)) ; first | ((with_reducible apply go_len); rfl; rfl) | ((with_reducible apply go_fn_int); rfl; (exact hc); rfl))
             | (((with_reducible apply go_bx_agg); rfl; rfl; (exact Nat.le_of_ble_eq_true rfl); rfl; rfl)))
           | ((with_reducible (show evOps _ _ _ _ _ _)); first
             | (with_reducible apply go_nil))
           | ((with_reducible (show evG _ _ _ _ _)); first
             | (with_reducible apply go_seq)
             | (with_reducible apply go_region)
             | ((with_reducible apply go_cond_f); rfl; rfl)
             | (((with_reducible apply go_cond); rfl) <;> (intro h; simp only [h]; try simp only [decide_eq_true_eq, decide_eq_false_iff_not, Bool.not_eq_true', Bool.not_eq_false', Bool.not_true, Bool.not_false] at h; try exact absurd trivial h))
             | (with_reducible apply go_ret)
             | (with_reducible apply go_skipc))
           | (with_reducible apply go_kseq)
           | (with_reducible apply go_kseq_ret)
           | ((with_reducible apply end_t2); rfl; rfl; rfl; rfl)
          all_goals try (exfalso; omega)
          refine go_fn_bool (args' := [.sl (l.map encInt), .clo (.func 62) [] []]) rfl (c124 l (by omega) 62 (fun n => !inV n) fun x _ => c_inV x) rfl ?_
          rw [any_not, hv']
          repeat' first
           | (with_reducible apply go_op)
           | (with_reducible apply go_next)
           | ((with_reducible (show evOp _ _ _ _ _ _)); first
             | ((with_reducible (show evOp _ (.move _) _ _ _ _)) ; first | ((with_reducible apply go_mv_int); rfl; rfl) | ((with_reducible apply go_mv_sl); rfl; rfl))
             | ((with_reducible apply go_as))
             | (((with_reducible apply go_ld_agg); rfl; rfl; rfl; rfl))
             | (((with_reducible apply go_fn_plain); rfl; (exact c_ranked l num den least (by omega) (by omega) (by omega) hrule.1 hrule.2.1); rfl; (exact Nat.le_of_ble_eq_true rfl); rfl))
             | (((with_reducible apply go_extract); rfl; rfl)))
           | ((with_reducible (show evOps _ _ _ _ _ _)); first
             | (with_reducible apply go_nil))
           | ((with_reducible (show evG _ _ _ _ _)); first
             | (with_reducible apply go_seq)
             | (with_reducible apply go_region)
             | ((with_reducible apply go_cond_f); rfl; rfl)
             | (with_reducible apply go_ret)
             | (with_reducible apply go_skipc))
           | (with_reducible apply go_kseq)
           | ((with_reducible apply end_t2); rfl; rfl; rfl; rfl)
          all_goals first | rfl | trace_state
end Go.Pv.Soil

open Go Go.Proofs Go.Pv
set_option maxHeartbeats 4000000
set_option maxRecDepth 100000
set_option linter.unusedSimpArgs false
set_option linter.unusedVariables false
namespace Go.Pv.Geo

theorem mix : Tryz.prog.follows .mixedOrders = true := by decide +kernel
structure Pt where
  x : Int
  y : Int
  deriving DecidableEq
def encPt (p : Pt) : List D := [.int .i64 p.x, .int .i64 p.y]
theorem scalPt : ScalF encPt 2 := fun _ => ⟨rfl, rfl⟩
def ptOK (p : Pt) : Bool := decide ((-1000000 ≤ p.x ∧ p.x ≤ 1000000) ∧ (-1000000 ≤ p.y ∧ p.y ≤ 1000000))
theorem pt_bd {p : Pt} (h : ptOK p = true) : (-1000000 ≤ p.x ∧ p.x ≤ 1000000) ∧ -1000000 ≤ p.y ∧ p.y ≤ 1000000 := by simpa [ptOK] using h
theorem pt_no {p : Pt} (h : ¬ ((-1000000 ≤ p.x ∧ p.x ≤ 1000000) ∧ (-1000000 ≤ p.y ∧ p.y ≤ 1000000))) : true = !ptOK p := by
  simp only [ptOK, decide_eq_false h, Bool.not_false]
theorem pt_yes {p : Pt} (h : (-1000000 ≤ p.x ∧ p.x ≤ 1000000) ∧ (-1000000 ≤ p.y ∧ p.y ≤ 1000000)) : false = !ptOK p := by
  simp only [ptOK, decide_eq_true h, Bool.not_true]

def idxOf {α : Type} (p : α → Bool) (l : List α) : Int := match l.findIdx? p with
  | some i => i
  | none => -1
theorem idxOf_none {α : Type} {p : α → Bool} {l : List α} (h : ∀ x ∈ l, p x = false) : idxOf p l = -1 := by
  have : l.findIdx? p = none := by simpa using h
  rw [idxOf, this]
theorem idxOf_some {α : Type} {p : α → Bool} {l : List α} {i : Nat} (hi : i < l.length) (h : p l[i] = true) (hb : ∀ j (hj : j < i), p (l[j]'(by omega)) = false) : idxOf p l = i := by
  have : l.findIdx? p = some i := by
    rw [List.findIdx?_eq_some_iff_getElem]
    exact ⟨hi, h, fun j hj => by simpa using hb j hj⟩
  rw [idxOf, this]
theorem idxOf_ge {α : Type} {p : α → Bool} {l : List α} : decide (0 ≤ idxOf p l) = l.any p := by
  unfold idxOf
  cases h : l.findIdx? p with
  | none =>
    have : l.any p = false := by
      rw [List.findIdx?_eq_none_iff] at h
      rw [List.any_eq_false]
      intro x hx
      simp [h x hx]
    rw [this]; rfl
  | some i =>
    have : l.any p = true := by
      rw [List.findIdx?_eq_some_iff_getElem] at h
      obtain ⟨hi, h1, _⟩ := h
      exact List.any_eq_true.2 ⟨l[i], List.getElem_mem hi, h1⟩
    rw [this]
    simp

theorem c_within (n lo hi : Int) : Contract Tryz.prog 47 [.int .i64 n, .int .i64 lo, .int .i64 hi] (.ret (.bool (decide (lo ≤ n ∧ n ≤ hi)))) := by
  refine contract_of mix Tryz.func47 rfl rfl (by rw [Tryz.ntmps47]; exact Nat.le_of_ble_eq_true rfl) ?_; rw [Tryz.results47, Tryz.ntmps47]; simp only [argsE, Nat.reduceAdd]
  repeat' first
           | (with_reducible apply go_op)
           | (with_reducible apply go_next)
           | ((with_reducible (show evOp _ _ _ _ _ _)); first
             | ((with_reducible (show evOp _ (.move _) _ _ _ _)) ; first | ((with_reducible apply go_mv_int); rfl; rfl) | ((with_reducible apply go_mv_bool); rfl; rfl))
             | ((with_reducible apply go_as))
             | (((with_reducible apply go_cmp); rfl; rfl; rfl; rfl))
             | (((with_reducible apply go_pick); rfl; rfl; rfl)))
           | ((with_reducible (show evOps _ _ _ _ _ _)); first
             | (with_reducible apply go_nil)
             | ((with_reducible apply go_run); rfl; rfl)
             | ((with_reducible apply go_pass); rfl; rfl; rfl)
             | (((with_reducible apply go_guard); rfl) <;> (intro h; simp only [h, Bool.not_true, Bool.not_false]; (try with_reducible (refine ⟨rfl, ?_⟩)); try simp only [decide_eq_true_eq, decide_eq_false_iff_not, Bool.not_eq_true', Bool.not_eq_false', Bool.not_true, Bool.not_false] at h; try exact absurd trivial h)))
           | ((with_reducible (show evG _ _ _ _ _)); first
             | (with_reducible apply go_seq)
             | (with_reducible apply go_region)
             | (with_reducible apply go_ret))
           | (with_reducible apply go_kseq)
           | ((with_reducible apply end_bool); rfl)
  all_goals (simp at *; try omega)
theorem c_good (p : Pt) : Contract Tryz.prog 45 [.agg (encPt p)] (.ret (.bool (ptOK p))) := by
  refine contract_of mix Tryz.func45 rfl rfl (by rw [Tryz.ntmps45]; exact Nat.le_of_ble_eq_true rfl) ?_; rw [Tryz.results45, Tryz.ntmps45]; simp only [argsE, Nat.reduceAdd]
  repeat' first
           | (with_reducible apply go_op)
           | (with_reducible apply go_next)
           | ((with_reducible (show evOp _ _ _ _ _ _)); first
             | (((with_reducible apply go_mv_bool); rfl; rfl))
             | ((with_reducible apply go_as))
             | (((with_reducible apply go_load_own); rfl; rfl; rfl; rfl))
             | (((with_reducible apply go_fieldAddr_own); rfl; rfl; rfl))
             | (((with_reducible apply go_fn_bool); rfl; (exact c_within _ _ _); rfl))
             | (((with_reducible apply go_pick); rfl; rfl; rfl))
             | (((with_reducible apply go_bx_agg); rfl; rfl; (exact Nat.le_of_ble_eq_true rfl); rfl; rfl)))
           | ((with_reducible (show evOps _ _ _ _ _ _)); first
             | (with_reducible apply go_nil)
             | ((with_reducible apply go_run); rfl; rfl)
             | ((with_reducible apply go_pass); rfl; rfl; rfl)
             | (((with_reducible apply go_guard); rfl) <;> (intro h; simp only [h, Bool.not_true, Bool.not_false]; (try with_reducible (refine ⟨rfl, ?_⟩)); try simp only [decide_eq_true_eq, decide_eq_false_iff_not, Bool.not_eq_true', Bool.not_eq_false', Bool.not_true, Bool.not_false] at h; try exact absurd trivial h)))
           | ((with_reducible (show evG _ _ _ _ _)); first
             | (with_reducible apply go_seq)
             | (with_reducible apply go_region)
             | (with_reducible apply go_ret))
           | (with_reducible apply go_kseq)
           | ((with_reducible apply end_bool); rfl)
  all_goals (unfold ptOK; first | exact decide_eq_decide.2 (by omega) | exact (decide_eq_true (by omega)).symm | exact (decide_eq_false (by omega)).symm | trace_state)
theorem c_outside1 (p : Pt) : Contract Tryz.prog 96 [.agg (encPt p)] (.ret (.bool (!ptOK p))) := by
  refine contract_of mix Tryz.func96 rfl rfl (by rw [Tryz.ntmps96]; exact Nat.le_of_ble_eq_true rfl) ?_; rw [Tryz.results96, Tryz.ntmps96]; simp only [argsE, Nat.reduceAdd]
  repeat' first
           | (with_reducible apply go_op)
           | (with_reducible apply go_next)
           | ((with_reducible (show evOp _ _ _ _ _ _)); first
             | (((with_reducible apply go_mv_bool); rfl; rfl))
             | ((with_reducible apply go_as))
             | (((with_reducible apply go_load_own); rfl; rfl; rfl; rfl))
             | (((with_reducible apply go_fieldAddr_own); rfl; rfl; rfl))
             | (((with_reducible apply go_cmp); rfl; rfl; rfl; rfl))
             | (((with_reducible apply go_pick); rfl; rfl; rfl))
             | (((with_reducible apply go_bx_agg); rfl; rfl; (exact Nat.le_of_ble_eq_true rfl); rfl; rfl)))
           | ((with_reducible (show evOps _ _ _ _ _ _)); first
             | (with_reducible apply go_nil)
             | ((with_reducible apply go_run); rfl; rfl)
             | ((with_reducible apply go_pass); rfl; rfl; rfl)
             | (((with_reducible apply go_guard); rfl) <;> (intro h; simp only [h, Bool.not_true, Bool.not_false]; (try with_reducible (refine ⟨rfl, ?_⟩)); try simp only [decide_eq_true_eq, decide_eq_false_iff_not, Bool.not_eq_true', Bool.not_eq_false', Bool.not_true, Bool.not_false] at h; try exact absurd trivial h)))
           | ((with_reducible (show evG _ _ _ _ _)); first
             | (with_reducible apply go_seq)
             | (with_reducible apply go_region)
             | (with_reducible apply go_ret))
           | (with_reducible apply go_kseq)
           | ((with_reducible apply end_bool); rfl)
  · by_cases h4 : 1000000 < p.y
    · rw [decide_eq_true h4]; exact pt_no (p := p) (by omega)
    · rw [decide_eq_false h4]; exact pt_yes (p := p) (by omega)
  all_goals exact pt_no (p := p) (by omega)
theorem c_IndexFunc (l : List Pt) (hl : l.length < 1000000000000) (g : FuncId) (p : Pt → Bool) (hf : ∀ x ∈ l, Contract Tryz.prog g [.agg (encPt x)] (.ret (.bool (p x)))) :
    Contract Tryz.prog 130 [.sl (l.map encPt), .clo (.func g) [] []] (.ret (.int .i64 (idxOf p l))) := by
  refine contract_of mix Tryz.func130 rfl rfl (by rw [Tryz.ntmps130]; exact Nat.le_of_ble_eq_true rfl) ?_; rw [Tryz.results130, Tryz.ntmps130]; simp only [argsE, Nat.reduceAdd]
  repeat' first
           | (with_reducible apply go_op)
           | (with_reducible apply go_next)
           | ((with_reducible (show evOp _ _ _ _ _ _)); first
             | ((with_reducible (show evOp _ (.move _) _ _ _ _)) ; first | ((with_reducible apply go_mv_int); rfl; rfl) | ((with_reducible apply go_mv_sl); rfl; rfl))
             | ((with_reducible apply go_as))
             | (((with_reducible apply go_len); rfl; rfl)))
           | ((with_reducible (show evOps _ _ _ _ _ _)); first
             | (with_reducible apply go_nil))
           | ((with_reducible (show evG _ _ _ _ _)); first
             | (with_reducible apply go_seq)
             | (with_reducible apply go_region)
             | (with_reducible apply go_block))
           | (with_reducible apply go_kseq)
  refine go_count (l.length) (fun i => ⟨[(8, .int .i64 i), (7, .int .i64 l.length), (0, .sl (l.map encPt)), (1, .clo (.func g) [] [])], [], 0, 19⟩) (fun i => ∀ j (hj : j < i) (hj' : j < l.length), p l[j] = false) (entails_eq (k := 0) (ns := []) (ks := [8, 7, 0, 1]) [] rfl (by simp) rfl) (by omega) ?_
  intro i hi hC
  repeat' first
           | (with_reducible apply go_op)
           | (with_reducible apply go_next)
           | ((with_reducible (show evOp _ _ _ _ _ _)); first
             | ((with_reducible (show evOp _ (.move _) _ _ _ _)) ; first | ((with_reducible apply go_mv_int); rfl; rfl) | ((with_reducible apply go_mv_sl); rfl; rfl) | ((with_reducible apply go_mv_clo); rfl; rfl))
             | ((with_reducible apply go_as))
             | (((with_reducible apply go_ld_ptr); rfl; rfl; rfl))
             | (((with_reducible apply go_index_nat); rfl; rfl; (with_reducible rfl); (intro; rfl); rfl; omega; (intro hlt)))
             | (((with_reducible apply go_cmp); rfl; rfl; rfl; rfl)))
           | ((with_reducible (show evOps _ _ _ _ _ _)); first
             | (with_reducible apply go_nil))
           | ((with_reducible (show evG _ _ _ _ _)); first
             | (with_reducible apply go_seq)
             | (with_reducible apply go_region)
             | (((with_reducible apply go_cond); rfl) <;> (intro h; simp only [h]; try simp only [decide_eq_true_eq, decide_eq_false_iff_not, Bool.not_eq_true', Bool.not_eq_false', Bool.not_true, Bool.not_false] at h; try exact absurd trivial h))
             | (with_reducible apply go_ret)
             | (with_reducible apply go_skipc)
             | (with_reducible apply go_block)
             | (with_reducible apply go_exit))
           | (with_reducible apply go_kseq)
           | (with_reducible apply go_kblock_exit)
           | (with_reducible apply go_kseq_exit)
           | ((with_reducible apply end_int); rfl)
  · refine go_clo_bool (d1 := .agg (encPt l[i])) rfl rfl (fun _ _ => rfl) (hf l[i] (List.getElem_mem _)) rfl ?_
    repeat' first
           | (with_reducible apply go_op)
           | (with_reducible apply go_next)
           | ((with_reducible (show evOp _ _ _ _ _ _)); first
             | (((with_reducible apply go_mv_int); rfl; rfl))
             | ((with_reducible apply go_as))
             | (((with_reducible apply go_add); rfl; rfl; rfl; omega)))
           | ((with_reducible (show evOps _ _ _ _ _ _)); first
             | (with_reducible apply go_nil))
           | ((with_reducible (show evG _ _ _ _ _)); first
             | (with_reducible apply go_seq)
             | (with_reducible apply go_region)
             | (((with_reducible apply go_cond); rfl) <;> (intro h; simp only [h]; try simp only [decide_eq_true_eq, decide_eq_false_iff_not, Bool.not_eq_true', Bool.not_eq_false', Bool.not_true, Bool.not_false] at h; try exact absurd trivial h))
             | (with_reducible apply go_ret)
             | (with_reducible apply go_skipc))
           | (with_reducible apply go_kseq)
           | (with_reducible apply go_kseq_ret)
           | (with_reducible apply go_kblock)
           | (with_reducible apply go_kblock_ret)
           | ((with_reducible apply end_int); rfl)
    · have h2 : i < l.length := by omega
      exact (idxOf_some h2 h fun j hj => hC j hj (by omega)).symm
    · have h2 : i < l.length := by omega
      refine ⟨by omega, fun j hj hj' => ?_, entails_eq (k := 0) (ns := []) (ks := [8, 7, 0, 1]) [] rfl (by simp) rfl⟩
      rcases Nat.lt_succ_iff_lt_or_eq.1 hj with h' | rfl
      · exact hC j h' hj'
      · exact h
  · refine (idxOf_none fun x hx => ?_).symm
    obtain ⟨j, hj, rfl⟩ := List.mem_iff_getElem.1 hx
    exact hC j (by omega) hj
theorem c_ContainsFunc (l : List Pt) (hl : l.length < 1000000000000) (g : FuncId) (p : Pt → Bool) (hf : ∀ x ∈ l, Contract Tryz.prog g [.agg (encPt x)] (.ret (.bool (p x)))) :
    Contract Tryz.prog 95 [.sl (l.map encPt), .clo (.func g) [] []] (.ret (.bool (l.any p))) := by
  refine contract_of mix Tryz.func95 rfl rfl (by rw [Tryz.ntmps95]; exact Nat.le_of_ble_eq_true rfl) ?_; rw [Tryz.results95, Tryz.ntmps95]; simp only [argsE, Nat.reduceAdd]
  repeat' first
           | (with_reducible apply go_op)
           | (with_reducible apply go_next)
           | ((with_reducible (show evOp _ _ _ _ _ _)); first
             | ((with_reducible (show evOp _ (.move _) _ _ _ _)) ; first | ((with_reducible apply go_mv_bool); rfl; rfl) | ((with_reducible apply go_mv_sl); rfl; rfl) | ((with_reducible apply go_mv_clo); rfl; rfl))
             | ((with_reducible apply go_as))
             | (((with_reducible apply go_cmp); rfl; rfl; rfl; rfl))
             | (((with_reducible apply go_fn_int); rfl; (exact c_IndexFunc l hl g p hf); rfl)))
           | ((with_reducible (show evOps _ _ _ _ _ _)); first
             | (with_reducible apply go_nil))
           | ((with_reducible (show evG _ _ _ _ _)); first
             | (with_reducible apply go_seq)
             | (with_reducible apply go_region)
             | (with_reducible apply go_ret))
           | (with_reducible apply go_kseq)
           | ((with_reducible apply end_bool); rfl)
  exact idxOf_ge
theorem c_outside (l : List Pt) (hl : l.length < 1000000000000) : Contract Tryz.prog 67 [.sl (l.map encPt)] (.ret (.bool (l.any fun p => !ptOK p))) := by
  refine contract_of mix Tryz.func67 rfl rfl (by rw [Tryz.ntmps67]; exact Nat.le_of_ble_eq_true rfl) ?_; rw [Tryz.results67, Tryz.ntmps67]; simp only [argsE, Nat.reduceAdd]
  repeat' first
           | (with_reducible apply go_op)
           | (with_reducible apply go_next)
           | ((with_reducible (show evOp _ _ _ _ _ _)); first
             | ((with_reducible (show evOp _ (.move _) _ _ _ _)) ; first | ((with_reducible apply go_mv_bool); rfl; rfl) | ((with_reducible apply go_mv_sl); rfl; rfl))
             | ((with_reducible apply go_as))
             | (((with_reducible apply go_fn_bool); rfl; (exact c_ContainsFunc l hl 96 (fun p => !ptOK p) fun x _ => c_outside1 x); rfl)))
           | ((with_reducible (show evOps _ _ _ _ _ _)); first
             | (with_reducible apply go_nil))
           | ((with_reducible (show evG _ _ _ _ _)); first
             | (with_reducible apply go_seq)
             | (with_reducible apply go_region)
             | (with_reducible apply go_ret))
           | (with_reducible apply go_kseq)
           | ((with_reducible apply end_bool); rfl)
           | (with_reducible rfl)
theorem c_outside_1 (a : Pt) : Contract Tryz.prog 67 [.sl [encPt a]] (.ret (.bool (!ptOK a))) := by
  have := c_outside [a] (by simp)
  simpa using this
theorem c_outside_2 (a b : Pt) : Contract Tryz.prog 67 [.sl [encPt a, encPt b]] (.ret (.bool (!(ptOK a && ptOK b)))) := by
  have := c_outside [a, b] (by simp)
  simpa [Bool.not_and] using this
theorem c_outside_3 (a b c : Pt) : Contract Tryz.prog 67 [.sl [encPt a, encPt b, encPt c]] (.ret (.bool (!(ptOK a && ptOK b && ptOK c)))) := by
  have := c_outside [a, b, c] (by simp)
  simpa [Bool.not_and, Bool.or_assoc] using this
theorem c_outside_4 (a b c d : Pt) : Contract Tryz.prog 67 [.sl [encPt a, encPt b, encPt c, encPt d]] (.ret (.bool (!(ptOK a && ptOK b && ptOK c && ptOK d)))) := by
  have := c_outside [a, b, c, d] (by simp)
  simpa [Bool.not_and, Bool.or_assoc] using this

theorem mul_abs {u v A B : Int} (hu : -A ≤ u ∧ u ≤ A) (hv : -B ≤ v ∧ v ≤ B) : -(A * B) ≤ u * v ∧ u * v ≤ A * B := by
  have key : ∀ y : Int, 0 ≤ y ∧ y ≤ B → -(A * B) ≤ u * y ∧ u * y ≤ A * B := fun y hy => by
    have h1 : u * y ≤ A * y := Int.mul_le_mul_of_nonneg_right hu.2 hy.1
    have h2 : -A * y ≤ u * y := Int.mul_le_mul_of_nonneg_right hu.1 hy.1
    have h3 : A * y ≤ A * B := Int.mul_le_mul_of_nonneg_left hy.2 (by omega)
    rw [Int.neg_mul] at h2
    omega
  by_cases h : 0 ≤ v
  · exact key v ⟨h, hv.2⟩
  · have := key (-v) ⟨by omega, by omega⟩
    rw [Int.mul_neg] at this
    omega
def crossE (a b c : Pt) : Int := (b.x - a.x) * (c.y - a.y) - (b.y - a.y) * (c.x - a.x)
def dotE (a b c : Pt) : Int := (b.x - a.x) * (c.x - a.x) + (b.y - a.y) * (c.y - a.y)
theorem mul4 {u v : Int} (hu : -2000000 ≤ u ∧ u ≤ 2000000) (hv : -2000000 ≤ v ∧ v ≤ 2000000) : -4000000000000 ≤ u * v ∧ u * v ≤ 4000000000000 := by
  have := mul_abs hu hv; omega
theorem cross_bd {a b c : Pt} (ha : ptOK a = true) (hb : ptOK b = true) (hc : ptOK c = true) : (-4000000000000 ≤ (b.x - a.x) * (c.y - a.y) ∧ (b.x - a.x) * (c.y - a.y) ≤ 4000000000000) ∧ (-4000000000000 ≤ (b.y - a.y) * (c.x - a.x) ∧ (b.y - a.y) * (c.x - a.x) ≤ 4000000000000) := by
  have h1 := pt_bd ha
  have h2 := pt_bd hb
  have h3 := pt_bd hc
  exact ⟨mul4 (by omega) (by omega), mul4 (by omega) (by omega)⟩
theorem dot_bd {a b c : Pt} (ha : ptOK a = true) (hb : ptOK b = true) (hc : ptOK c = true) : (-4000000000000 ≤ (b.x - a.x) * (c.x - a.x) ∧ (b.x - a.x) * (c.x - a.x) ≤ 4000000000000) ∧ (-4000000000000 ≤ (b.y - a.y) * (c.y - a.y) ∧ (b.y - a.y) * (c.y - a.y) ≤ 4000000000000) := by
  have h1 := pt_bd ha
  have h2 := pt_bd hb
  have h3 := pt_bd hc
  exact ⟨mul4 (by omega) (by omega), mul4 (by omega) (by omega)⟩
theorem crossE_bd {a b c : Pt} (ha : ptOK a = true) (hb : ptOK b = true) (hc : ptOK c = true) : -8000000000000 ≤ crossE a b c ∧ crossE a b c ≤ 8000000000000 := by
  have := cross_bd ha hb hc; unfold crossE; omega
theorem dotE_bd {a b c : Pt} (ha : ptOK a = true) (hb : ptOK b = true) (hc : ptOK c = true) : -8000000000000 ≤ dotE a b c ∧ dotE a b c ≤ 8000000000000 := by
  have := dot_bd ha hb hc; unfold dotE; omega
theorem c_cross (a b c : Pt) (ha : ptOK a = true) (hb : ptOK b = true) (hc : ptOK c = true) : Contract Tryz.prog 99 [.agg (encPt a), .agg (encPt b), .agg (encPt c)] (.ret (.int .i64 (crossE a b c))) := by
  have h1 := pt_bd ha
  have h2 := pt_bd hb
  have h3 := pt_bd hc
  have h4 := cross_bd ha hb hc
  refine contract_of mix Tryz.func99 rfl rfl (by rw [Tryz.ntmps99]; exact Nat.le_of_ble_eq_true rfl) ?_; rw [Tryz.results99, Tryz.ntmps99]; simp only [argsE, Nat.reduceAdd]
  repeat' first
           | (with_reducible apply go_op)
           | (with_reducible apply go_next)
           | ((with_reducible (show evOp _ _ _ _ _ _)); first
             | (((with_reducible apply go_mv_int); rfl; rfl))
             | ((with_reducible apply go_as))
             | (((with_reducible apply go_load_own); rfl; rfl; rfl; rfl))
             | (((with_reducible apply go_fieldAddr_own); rfl; rfl; rfl))
             | ((with_reducible (show evOp _ (.binOp _ _ _ _ _) _ _ _ _)) ; first | ((with_reducible apply go_sub); rfl; rfl; rfl; omega) | ((with_reducible apply go_mul); rfl; rfl; rfl; omega))
             | (((with_reducible apply go_bx_agg); rfl; rfl; (exact Nat.le_of_ble_eq_true rfl); rfl; rfl)))
           | ((with_reducible (show evOps _ _ _ _ _ _)); first
             | (with_reducible apply go_nil))
           | ((with_reducible (show evG _ _ _ _ _)); first
             | (with_reducible apply go_seq)
             | (with_reducible apply go_region)
             | (with_reducible apply go_ret))
           | (with_reducible apply go_kseq)
           | ((with_reducible apply end_int); rfl)
  all_goals rfl
theorem c_rcross (a b c : Pt) (ha : ptOK a = true) (hb : ptOK b = true) (hc : ptOK c = true) : Contract Tryz.prog 116 [.agg (encPt a), .agg (encPt b), .agg (encPt c)] (.ret (.int .i64 (crossE a b c))) := by
  have h1 := pt_bd ha
  have h2 := pt_bd hb
  have h3 := pt_bd hc
  have h4 := cross_bd ha hb hc
  refine contract_of mix Tryz.func116 rfl rfl (by rw [Tryz.ntmps116]; exact Nat.le_of_ble_eq_true rfl) ?_; rw [Tryz.results116, Tryz.ntmps116]; simp only [argsE, Nat.reduceAdd]
  repeat' first
           | (with_reducible apply go_op)
           | (with_reducible apply go_next)
           | ((with_reducible (show evOp _ _ _ _ _ _)); first
             | (((with_reducible apply go_mv_int); rfl; rfl))
             | ((with_reducible apply go_as))
             | (((with_reducible apply go_load_own); rfl; rfl; rfl; rfl))
             | (((with_reducible apply go_fieldAddr_own); rfl; rfl; rfl))
             | ((with_reducible (show evOp _ (.binOp _ _ _ _ _) _ _ _ _)) ; first | ((with_reducible apply go_sub); rfl; rfl; rfl; omega) | ((with_reducible apply go_mul); rfl; rfl; rfl; omega))
             | (((with_reducible apply go_bx_agg); rfl; rfl; (exact Nat.le_of_ble_eq_true rfl); rfl; rfl)))
           | ((with_reducible (show evOps _ _ _ _ _ _)); first
             | (with_reducible apply go_nil))
           | ((with_reducible (show evG _ _ _ _ _)); first
             | (with_reducible apply go_seq)
             | (with_reducible apply go_region)
             | (with_reducible apply go_ret))
           | (with_reducible apply go_kseq)
           | ((with_reducible apply end_int); rfl)
  all_goals rfl
theorem c_dot (a b c : Pt) (ha : ptOK a = true) (hb : ptOK b = true) (hc : ptOK c = true) : Contract Tryz.prog 110 [.agg (encPt a), .agg (encPt b), .agg (encPt c)] (.ret (.int .i64 (dotE a b c))) := by
  have h1 := pt_bd ha
  have h2 := pt_bd hb
  have h3 := pt_bd hc
  have h4 := dot_bd ha hb hc
  refine contract_of mix Tryz.func110 rfl rfl (by rw [Tryz.ntmps110]; exact Nat.le_of_ble_eq_true rfl) ?_; rw [Tryz.results110, Tryz.ntmps110]; simp only [argsE, Nat.reduceAdd]
  repeat' first
           | (with_reducible apply go_op)
           | (with_reducible apply go_next)
           | ((with_reducible (show evOp _ _ _ _ _ _)); first
             | (((with_reducible apply go_mv_int); rfl; rfl))
             | ((with_reducible apply go_as))
             | (((with_reducible apply go_load_own); rfl; rfl; rfl; rfl))
             | (((with_reducible apply go_fieldAddr_own); rfl; rfl; rfl))
             | ((with_reducible (show evOp _ (.binOp _ _ _ _ _) _ _ _ _)) ; first | ((with_reducible apply go_add); rfl; rfl; rfl; omega) | ((with_reducible apply go_sub); rfl; rfl; rfl; omega) | ((with_reducible apply go_mul); rfl; rfl; rfl; omega))
             | (((with_reducible apply go_bx_agg); rfl; rfl; (exact Nat.le_of_ble_eq_true rfl); rfl; rfl)))
           | ((with_reducible (show evOps _ _ _ _ _ _)); first
             | (with_reducible apply go_nil))
           | ((with_reducible (show evG _ _ _ _ _)); first
             | (with_reducible apply go_seq)
             | (with_reducible apply go_region)
             | (with_reducible apply go_ret))
           | (with_reducible apply go_kseq)
           | ((with_reducible apply end_int); rfl)
  all_goals rfl
theorem c_rdot (a b c : Pt) (ha : ptOK a = true) (hb : ptOK b = true) (hc : ptOK c = true) : Contract Tryz.prog 118 [.agg (encPt a), .agg (encPt b), .agg (encPt c)] (.ret (.int .i64 (dotE a b c))) := by
  have h1 := pt_bd ha
  have h2 := pt_bd hb
  have h3 := pt_bd hc
  have h4 := dot_bd ha hb hc
  refine contract_of mix Tryz.func118 rfl rfl (by rw [Tryz.ntmps118]; exact Nat.le_of_ble_eq_true rfl) ?_; rw [Tryz.results118, Tryz.ntmps118]; simp only [argsE, Nat.reduceAdd]
  repeat' first
           | (with_reducible apply go_op)
           | (with_reducible apply go_next)
           | ((with_reducible (show evOp _ _ _ _ _ _)); first
             | (((with_reducible apply go_mv_int); rfl; rfl))
             | ((with_reducible apply go_as))
             | (((with_reducible apply go_load_own); rfl; rfl; rfl; rfl))
             | (((with_reducible apply go_fieldAddr_own); rfl; rfl; rfl))
             | ((with_reducible (show evOp _ (.binOp _ _ _ _ _) _ _ _ _)) ; first | ((with_reducible apply go_add); rfl; rfl; rfl; omega) | ((with_reducible apply go_sub); rfl; rfl; rfl; omega) | ((with_reducible apply go_mul); rfl; rfl; rfl; omega))
             | (((with_reducible apply go_bx_agg); rfl; rfl; (exact Nat.le_of_ble_eq_true rfl); rfl; rfl)))
           | ((with_reducible (show evOps _ _ _ _ _ _)); first
             | (with_reducible apply go_nil))
           | ((with_reducible (show evG _ _ _ _ _)); first
             | (with_reducible apply go_seq)
             | (with_reducible apply go_region)
             | (with_reducible apply go_ret))
           | (with_reducible apply go_kseq)
           | ((with_reducible apply end_int); rfl)
  all_goals rfl
def sqE (a b : Pt) : Int := dotE a b b
theorem c_rsquare (a b : Pt) (ha : ptOK a = true) (hb : ptOK b = true) : Contract Tryz.prog 119 [.agg (encPt a), .agg (encPt b)] (.ret (.int .i64 (sqE a b))) := by
  refine contract_of mix Tryz.func119 rfl rfl (by rw [Tryz.ntmps119]; exact Nat.le_of_ble_eq_true rfl) ?_; rw [Tryz.results119, Tryz.ntmps119]; simp only [argsE, Nat.reduceAdd]
  repeat' first
           | (with_reducible apply go_op)
           | (with_reducible apply go_next)
           | ((with_reducible (show evOp _ _ _ _ _ _)); first
             | (((with_reducible apply go_mv_int); rfl; rfl))
             | ((with_reducible apply go_as))
             | (((with_reducible apply go_ld_agg); rfl; rfl; rfl; rfl))
             | (((with_reducible apply go_fn_int); rfl; (exact c_rdot a b b ha hb hb); rfl))
             | (((with_reducible apply go_bx_agg); rfl; rfl; (exact Nat.le_of_ble_eq_true rfl); rfl; rfl)))
           | ((with_reducible (show evOps _ _ _ _ _ _)); first
             | (with_reducible apply go_nil))
           | ((with_reducible (show evG _ _ _ _ _)); first
             | (with_reducible apply go_seq)
             | (with_reducible apply go_region)
             | (with_reducible apply go_ret))
           | (with_reducible apply go_kseq)
           | ((with_reducible apply end_int); rfl)
  rfl
def signE (n : Int) : Int := if n < 0 then -1 else if 0 < n then 1 else 0
theorem c_sign (n : Int) : Contract Tryz.prog 115 [.int .i64 n] (.ret (.int .i64 (signE n))) := by
  refine contract_of mix Tryz.func115 rfl rfl (by rw [Tryz.ntmps115]; exact Nat.le_of_ble_eq_true rfl) ?_; rw [Tryz.results115, Tryz.ntmps115]; simp only [argsE, Nat.reduceAdd]
  repeat' first
           | (with_reducible apply go_op)
           | (with_reducible apply go_next)
           | ((with_reducible (show evOp _ _ _ _ _ _)); first
             | (((with_reducible apply go_mv_int); rfl; rfl))
             | ((with_reducible apply go_as))
             | (((with_reducible apply go_cmp); rfl; rfl; rfl; rfl)))
           | ((with_reducible (show evOps _ _ _ _ _ _)); first
             | (with_reducible apply go_nil))
           | ((with_reducible (show evG _ _ _ _ _)); first
             | (with_reducible apply go_seq)
             | (with_reducible apply go_region)
             | (((with_reducible apply go_cond); rfl) <;> (intro h; simp only [h]; try simp only [decide_eq_true_eq, decide_eq_false_iff_not, Bool.not_eq_true', Bool.not_eq_false', Bool.not_true, Bool.not_false] at h; try exact absurd trivial h))
             | (with_reducible apply go_ret)
             | (with_reducible apply go_skipc))
           | (with_reducible apply go_kseq)
           | (with_reducible apply go_kseq_ret)
           | ((with_reducible apply end_int); rfl)
  all_goals (unfold signE; (repeat' split) <;> first | rfl | (exfalso; omega))
theorem c_rorient (a b c : Pt) (ha : ptOK a = true) (hb : ptOK b = true) (hc : ptOK c = true) : Contract Tryz.prog 82 [.agg (encPt a), .agg (encPt b), .agg (encPt c)] (.ret (.int .i64 (signE (crossE a b c)))) := by
  refine contract_of mix Tryz.func82 rfl rfl (by rw [Tryz.ntmps82]; exact Nat.le_of_ble_eq_true rfl) ?_; rw [Tryz.results82, Tryz.ntmps82]; simp only [argsE, Nat.reduceAdd]
  repeat' first
           | (with_reducible apply go_op)
           | (with_reducible apply go_next)
           | ((with_reducible (show evOp _ _ _ _ _ _)); first
             | (((with_reducible apply go_mv_int); rfl; rfl))
             | ((with_reducible apply go_as))
             | (((with_reducible apply go_ld_agg); rfl; rfl; rfl; rfl))
             | ((with_reducible (show evOp _ (.call _) _ _ _ _)) ; first | ((with_reducible apply go_fn_int); rfl; (exact c_rcross a b c ha hb hc); rfl) | ((with_reducible apply go_fn_int); rfl; (exact c_sign _); rfl))
             | (((with_reducible apply go_bx_agg); rfl; rfl; (exact Nat.le_of_ble_eq_true rfl); rfl; rfl)))
           | ((with_reducible (show evOps _ _ _ _ _ _)); first
             | (with_reducible apply go_nil))
           | ((with_reducible (show evG _ _ _ _ _)); first
             | (with_reducible apply go_seq)
             | (with_reducible apply go_region)
             | (with_reducible apply go_ret))
           | (with_reducible apply go_kseq)
           | ((with_reducible apply end_int); rfl)
           | (with_reducible rfl)
theorem c_isNaN (n : Int) : Contract Tryz.prog 179 [.int .i64 n] (.ret (.bool false)) := by
  refine contract_of mix Tryz.func179 rfl rfl (by rw [Tryz.ntmps179]; exact Nat.le_of_ble_eq_true rfl) ?_; rw [Tryz.results179, Tryz.ntmps179]; simp only [argsE, Nat.reduceAdd]
  repeat' first
           | (with_reducible apply go_op)
           | (with_reducible apply go_next)
           | ((with_reducible (show evOp _ _ _ _ _ _)); first
             | ((with_reducible (show evOp _ (.move _) _ _ _ _)) ; first | ((with_reducible apply go_mv_int); rfl; rfl) | ((with_reducible apply go_mv_bool); rfl; rfl))
             | ((with_reducible apply go_as))
             | (((with_reducible apply go_cmp); rfl; rfl; rfl; rfl)))
           | ((with_reducible (show evOps _ _ _ _ _ _)); first
             | (with_reducible apply go_nil))
           | ((with_reducible (show evG _ _ _ _ _)); first
             | (with_reducible apply go_seq)
             | (with_reducible apply go_region)
             | (with_reducible apply go_ret))
           | (with_reducible apply go_kseq)
           | ((with_reducible apply end_bool); rfl)
  all_goals simp
def cmpE (a b : Int) : Int := if a < b then -1 else if b < a then 1 else 0
theorem c_compare (n m : Int) : Contract Tryz.prog 180 [.int .i64 n, .int .i64 m] (.ret (.int .i64 (cmpE n m))) := by
  refine contract_of mix Tryz.func180 rfl rfl (by rw [Tryz.ntmps180]; exact Nat.le_of_ble_eq_true rfl) ?_; rw [Tryz.results180, Tryz.ntmps180]; simp only [argsE, Nat.reduceAdd]
  repeat' first
           | (with_reducible apply go_op)
           | (with_reducible apply go_next)
           | ((with_reducible (show evOp _ _ _ _ _ _)); first
             | ((with_reducible (show evOp _ (.move _) _ _ _ _)) ; first | ((with_reducible apply go_mv_int); rfl; rfl) | ((with_reducible apply go_mv_bool); rfl; rfl))
             | ((with_reducible apply go_as))
             | (((with_reducible apply go_cmp); rfl; rfl; rfl; rfl))
             | (((with_reducible apply go_fn_bool); rfl; (exact c_isNaN _); rfl)))
           | ((with_reducible (show evOps _ _ _ _ _ _)); first
             | (with_reducible apply go_nil))
           | ((with_reducible (show evG _ _ _ _ _)); first
             | (with_reducible apply go_seq)
             | (with_reducible apply go_region)
             | ((with_reducible apply go_cond_f); rfl; rfl)
             | (((with_reducible apply go_cond); rfl) <;> (intro h; simp only [h]; try simp only [decide_eq_true_eq, decide_eq_false_iff_not, Bool.not_eq_true', Bool.not_eq_false', Bool.not_true, Bool.not_false] at h; try exact absurd trivial h))
             | (with_reducible apply go_ret)
             | (with_reducible apply go_skipc))
           | (with_reducible apply go_kseq)
           | (with_reducible apply go_kseq_ret)
           | ((with_reducible apply end_int); rfl)
  all_goals (unfold cmpE; (repeat' split) <;> first | rfl | (exfalso; omega))
theorem c_compare0 (n : Int) : Contract Tryz.prog 180 [.int .i64 n, .int .i64 0] (.ret (.int .i64 (signE n))) := c_compare n 0
theorem c_side (a b c : Pt) (ha : ptOK a = true) (hb : ptOK b = true) (hc : ptOK c = true) : Contract Tryz.prog 167 [.agg (encPt a), .agg (encPt b), .agg (encPt c)] (.ret (.int .i64 (signE (crossE a b c)))) := by
  refine contract_of mix Tryz.func167 rfl rfl (by rw [Tryz.ntmps167]; exact Nat.le_of_ble_eq_true rfl) ?_; rw [Tryz.results167, Tryz.ntmps167]; simp only [argsE, Nat.reduceAdd]
  repeat' first
           | (with_reducible apply go_op)
           | (with_reducible apply go_next)
           | ((with_reducible (show evOp _ _ _ _ _ _)); first
             | (((with_reducible apply go_mv_int); rfl; rfl))
             | ((with_reducible apply go_as))
             | (((with_reducible apply go_ld_agg); rfl; rfl; rfl; rfl))
             | ((with_reducible (show evOp _ (.call _) _ _ _ _)) ; first | ((with_reducible apply go_fn_int); rfl; (exact c_cross a b c ha hb hc); rfl) | ((with_reducible apply go_fn_int); rfl; (exact c_compare0 _); rfl))
             | (((with_reducible apply go_bx_agg); rfl; rfl; (exact Nat.le_of_ble_eq_true rfl); rfl; rfl)))
           | ((with_reducible (show evOps _ _ _ _ _ _)); first
             | (with_reducible apply go_nil))
           | ((with_reducible (show evG _ _ _ _ _)); first
             | (with_reducible apply go_seq)
             | (with_reducible apply go_region)
             | (with_reducible apply go_ret))
           | (with_reducible apply go_kseq)
           | ((with_reducible apply end_int); rfl)
           | (with_reducible rfl)
/-- Is a point on a segment? -/
def onE (a b p : Pt) : Bool := decide (crossE a b p = 0 ∧ (min a.x b.x ≤ p.x ∧ p.x ≤ max a.x b.x) ∧ (min a.y b.y ≤ p.y ∧ p.y ≤ max a.y b.y))
theorem c_on (a b p : Pt) (ha : ptOK a = true) (hb : ptOK b = true) (hp : ptOK p = true) : Contract Tryz.prog 98 [.agg (encPt a), .agg (encPt b), .agg (encPt p)] (.ret (.bool (onE a b p))) := by
  refine contract_of mix Tryz.func98 rfl rfl (by rw [Tryz.ntmps98]; exact Nat.le_of_ble_eq_true rfl) ?_; rw [Tryz.results98, Tryz.ntmps98]; simp only [argsE, Nat.reduceAdd]
  repeat' first
           | (with_reducible apply go_op)
           | (with_reducible apply go_next)
           | ((with_reducible (show evOp _ _ _ _ _ _)); first
             | (((with_reducible apply go_mv_bool); rfl; rfl))
             | ((with_reducible apply go_as))
             | ((with_reducible (show evOp _ (.load _ _) _ _ _ _)) ; first | ((with_reducible apply go_ld_agg); rfl; rfl; rfl; rfl) | ((with_reducible apply go_load_own); rfl; rfl; rfl; rfl))
             | (((with_reducible apply go_fieldAddr_own); rfl; rfl; rfl))
             | (((with_reducible apply go_cmp); rfl; rfl; rfl; rfl))
             | ((with_reducible (show evOp _ (.call _) _ _ _ _)) ; first | ((with_reducible apply go_min); rfl; rfl; rfl) | ((with_reducible apply go_max); rfl; rfl; rfl) | ((with_reducible apply go_fn_int); rfl; (exact c_cross a b p ha hb hp); rfl))
             | (((with_reducible apply go_pick); rfl; rfl; rfl))
             | (((with_reducible apply go_bx_agg); rfl; rfl; (exact Nat.le_of_ble_eq_true rfl); rfl; rfl)))
           | ((with_reducible (show evOps _ _ _ _ _ _)); first
             | (with_reducible apply go_nil)
             | ((with_reducible apply go_run); rfl; rfl)
             | ((with_reducible apply go_pass); rfl; rfl; rfl)
             | (((with_reducible apply go_guard); rfl) <;> (intro h; simp only [h, Bool.not_true, Bool.not_false]; (try with_reducible (refine ⟨rfl, ?_⟩)); try simp only [decide_eq_true_eq, decide_eq_false_iff_not, Bool.not_eq_true', Bool.not_eq_false', Bool.not_true, Bool.not_false] at h; try exact absurd trivial h)))
           | ((with_reducible (show evG _ _ _ _ _)); first
             | (with_reducible apply go_seq)
             | (with_reducible apply go_region)
             | (with_reducible apply go_ret))
           | (with_reducible apply go_kseq)
           | ((with_reducible apply end_bool); rfl)
  all_goals (unfold onE; first | exact (decide_eq_true (by omega)).symm | exact (decide_eq_false (by omega)).symm | (exact decide_eq_decide.2 (by omega)) | trace_state)
theorem sign_mul (a b : Int) : -1 ≤ signE a * signE b ∧ signE a * signE b ≤ 1 := by
  have h : ∀ n, -1 ≤ signE n ∧ signE n ≤ 1 := fun n => by unfold signE; (repeat' split) <;> omega
  have := mul_abs (A := 1) (B := 1) (h a) (h b)
  omega
/-- Have two segments a point in common? -/
def meetE (a b c d : Pt) : Bool := (onE a b c || onE a b d || onE c d a || onE c d b) || (decide (signE (crossE a b c) * signE (crossE a b d) < 0) && decide (signE (crossE c d a) * signE (crossE c d b) < 0))
theorem c_meet (a b c d : Pt) (ha : ptOK a = true) (hb : ptOK b = true) (hc : ptOK c = true) (hd : ptOK d = true) : Contract Tryz.prog 147 [.agg (encPt a), .agg (encPt b), .agg (encPt c), .agg (encPt d)] (.ret (.bool (meetE a b c d))) := by
  have s1 := sign_mul (crossE a b c) (crossE a b d)
  have s2 := sign_mul (crossE c d a) (crossE c d b)
  refine contract_of mix Tryz.func147 rfl rfl (by rw [Tryz.ntmps147]; exact Nat.le_of_ble_eq_true rfl) ?_; rw [Tryz.results147, Tryz.ntmps147]; simp only [argsE, Nat.reduceAdd]
  repeat' first
           | (with_reducible apply go_op)
           | (with_reducible apply go_next)
           | ((with_reducible (show evOp _ _ _ _ _ _)); first
             | (((with_reducible apply go_mv_bool); rfl; rfl))
             | ((with_reducible apply go_as))
             | (((with_reducible apply go_ld_agg); rfl; rfl; rfl; rfl))
             | ((with_reducible (show evOp _ (.binOp _ _ _ _ _) _ _ _ _)) ; first | ((with_reducible apply go_cmp); rfl; rfl; rfl; rfl) | ((with_reducible apply go_mul); rfl; rfl; rfl; omega))
             | ((with_reducible (show evOp _ (.call _) _ _ _ _)) ; first | ((with_reducible apply go_fn_bool); rfl; (exact c_on a b c ha hb hc); rfl) | ((with_reducible apply go_fn_bool); rfl; (exact c_on a b d ha hb hd); rfl) | ((with_reducible apply go_fn_bool); rfl; (exact c_on c d a hc hd ha); rfl) | ((with_reducible apply go_fn_bool); rfl; (exact c_on c d b hc hd hb); rfl) | ((with_reducible apply go_fn_int); rfl; (exact c_side a b c ha hb hc); rfl) | ((with_reducible apply go_fn_int); rfl; (exact c_side a b d ha hb hd); rfl) | ((with_reducible apply go_fn_int); rfl; (exact c_side c d a hc hd ha); rfl) | ((with_reducible apply go_fn_int); rfl; (exact c_side c d b hc hd hb); rfl))
             | (((with_reducible apply go_pick); rfl; rfl; rfl))
             | (((with_reducible apply go_bx_agg); rfl; rfl; (exact Nat.le_of_ble_eq_true rfl); rfl; rfl)))
           | ((with_reducible (show evOps _ _ _ _ _ _)); first
             | (with_reducible apply go_nil)
             | ((with_reducible apply go_run); rfl; rfl)
             | ((with_reducible apply go_pass); rfl; rfl; rfl)
             | (((with_reducible apply go_guard); rfl) <;> (intro h; simp only [h, Bool.not_true, Bool.not_false]; (try with_reducible (refine ⟨rfl, ?_⟩)); try simp only [decide_eq_true_eq, decide_eq_false_iff_not, Bool.not_eq_true', Bool.not_eq_false', Bool.not_true, Bool.not_false] at h; try exact absurd trivial h))
             | ((with_reducible apply go_pre); rfl)
             | (with_reducible apply go_pre_nil)
             | ((with_reducible apply go_suf); rfl)
             | (with_reducible apply go_suf_nil))
           | ((with_reducible (show evG _ _ _ _ _)); first
             | (with_reducible apply go_seq)
             | (with_reducible apply go_region)
             | ((with_reducible apply go_cond_t); rfl; rfl)
             | (((with_reducible apply go_cond); rfl) <;> (intro h; simp only [h]; try simp only [decide_eq_true_eq, decide_eq_false_iff_not, Bool.not_eq_true', Bool.not_eq_false', Bool.not_true, Bool.not_false] at h; try exact absurd trivial h))
             | ((with_reducible apply go_order); kernel_rfl; rfl)
             | (with_reducible apply go_ret)
             | (with_reducible apply go_skipc))
           | (with_reducible apply go_kseq)
           | (with_reducible apply go_ksuf)
           | (with_reducible apply go_kseq_ret)
           | ((with_reducible apply end_bool); rfl)
  all_goals (unfold meetE; simp [*])
end Go.Pv.Geo

open Go Go.Proofs Go.Pv
set_option maxHeartbeats 4000000
set_option maxRecDepth 100000
set_option linter.unusedSimpArgs false
set_option linter.unusedVariables false
namespace Go.Pv.Geo
def encT3 (a b c : Pt) : List D := [.int .i64 a.x, .int .i64 a.y, .int .i64 b.x, .int .i64 b.y, .int .i64 c.x, .int .i64 c.y]
def pre3 (u v w : Int) : Nat → List D
  | 0 => [.int .i64 0, .int .i64 0, .int .i64 0]
  | 1 => [.int .i64 u, .int .i64 0, .int .i64 0]
  | 2 => [.int .i64 u, .int .i64 v, .int .i64 0]
  | _ => [.int .i64 u, .int .i64 v, .int .i64 w]
def nrm (a d : Pt) : Int := (a.x - d.x) * (a.x - d.x) + (a.y - d.y) * (a.y - d.y)
def crs (b c d : Pt) : Int := (b.x - d.x) * (c.y - d.y) - (c.x - d.x) * (b.y - d.y)
def detE (a b c d : Pt) : Int := 0 + nrm a d * crs b c d + nrm b d * crs c a d + nrm c d * crs a b d
def detP (u v w : Int) : Nat → Int
  | 0 => 0
  | 1 => 0 + u
  | 2 => 0 + u + v
  | _ => 0 + u + v + w
def nearE (a d : Pt) : Prop := (-20000 ≤ a.x - d.x ∧ a.x - d.x ≤ 20000) ∧ -20000 ≤ a.y - d.y ∧ a.y - d.y ≤ 20000
theorem mulN {u v : Int} (hu : -20000 ≤ u ∧ u ≤ 20000) (hv : -20000 ≤ v ∧ v ≤ 20000) : -400000000 ≤ u * v ∧ u * v ≤ 400000000 := by
  have := mul_abs hu hv; omega
theorem nrm_bd {a d : Pt} (h : nearE a d) : -800000000 ≤ nrm a d ∧ nrm a d ≤ 800000000 := by
  have h1 := mulN h.1 h.1
  have h2 := mulN h.2 h.2
  unfold nrm; omega
theorem crs_bd {b c d : Pt} (h : nearE b d) (h' : nearE c d) : -800000000 ≤ crs b c d ∧ crs b c d ≤ 800000000 := by
  have h1 := mulN h.1 h'.2
  have h2 := mulN h'.1 h.2
  unfold crs; omega
theorem term_bd {a b c d : Pt} (ha : nearE a d) (hb : nearE b d) (hc : nearE c d) : -640000000000000000 ≤ nrm a d * crs b c d ∧ nrm a d * crs b c d ≤ 640000000000000000 := by
  have := mul_abs (nrm_bd ha) (crs_bd hb hc); omega
end Go.Pv.Geo

open Go Go.Proofs Go.Pv
set_option maxHeartbeats 4000000
set_option maxRecDepth 100000
set_option linter.unusedSimpArgs false
set_option linter.unusedVariables false
namespace Go.Pv.Geo
def absE (n : Int) : Int := if n < 0 then 0 - n else n
theorem c_abs (n : Int) (h : -9223372036854775807 ≤ n) (h' : n ≤ 9223372036854775807) : Contract Tryz.prog 120 [.int .i64 n] (.ret (.int .i64 (absE n))) := by
  refine contract_of mix Tryz.func120 rfl rfl (by rw [Tryz.ntmps120]; exact Nat.le_of_ble_eq_true rfl) ?_; rw [Tryz.results120, Tryz.ntmps120]; simp only [argsE, Nat.reduceAdd]
  repeat' first
           | (with_reducible apply go_op)
           | (with_reducible apply go_next)
           | ((with_reducible (show evOp _ _ _ _ _ _)); first
             | (((with_reducible apply go_mv_int); rfl; rfl))
             | ((with_reducible apply go_as))
             | (((with_reducible apply go_cmp); rfl; rfl; rfl; rfl))
             | (((with_reducible apply go_neg); rfl; rfl; omega)))
           | ((with_reducible (show evOps _ _ _ _ _ _)); first
             | (with_reducible apply go_nil))
           | ((with_reducible (show evG _ _ _ _ _)); first
             | (with_reducible apply go_seq)
             | (with_reducible apply go_region)
             | (((with_reducible apply go_cond); rfl) <;> (intro h; simp only [h]; try simp only [decide_eq_true_eq, decide_eq_false_iff_not, Bool.not_eq_true', Bool.not_eq_false', Bool.not_true, Bool.not_false] at h; try exact absurd trivial h))
             | (with_reducible apply go_ret)
             | (with_reducible apply go_skipc))
           | (with_reducible apply go_kseq)
           | (with_reducible apply go_kseq_ret)
           | ((with_reducible apply end_int); rfl)
  all_goals (unfold absE; first | rw [if_pos (by assumption)] | rw [if_neg (by omega)])
def farP (p q : Pt) : Bool := decide (20000 < p.x - q.x ∨ 20000 < p.y - q.y)
/-- Are some of the points too far from each other? -/
def farL (l : List Pt) : Bool := l.any fun p => l.any fun q => farP p q
theorem farL_yes {l : List Pt} {i k : Nat} (hi : i < l.length) (hk : k < l.length) (h : farP l[i] l[k] = true) : farL l = true :=
  List.any_eq_true.2 ⟨_, List.getElem_mem hi, List.any_eq_true.2 ⟨_, List.getElem_mem hk, h⟩⟩
theorem farL_no {l : List Pt} (h : ∀ i (hi : i < l.length), ∀ k (hk : k < l.length), farP l[i] l[k] = false) : farL l = false := by
  simp only [farL, List.any_eq_false]
  intro p hp
  obtain ⟨i, hi, rfl⟩ := List.mem_iff_getElem.1 hp
  simp only [List.any_eq_true, not_exists, not_and]
  intro q hq
  obtain ⟨k, hk, rfl⟩ := List.mem_iff_getElem.1 hq
  rw [h i hi k hk]; simp
theorem farP_self (p : Pt) : farP p p = false := by simp [farP]

theorem near_of {a b c d : Pt} (h : farL [a, b, c, d] = false) : nearE a d ∧ nearE b d ∧ nearE c d := by
  simp [farL, farP] at h
  simp only [nearE]
  omega
/-- What InCircle answers: the place and the error. -/
def inCircE (a b c d : Pt) : Int × Int :=
  if (ptOK a && ptOK b && ptOK c && ptOK d) = false then (0, 2) else if farL [a, b, c, d] = true then (0, 8) else if signE (crossE a b c) = 0 then (0, 10) else (signE (crossE a b c) * signE (detE a b c d), 0)
end Go.Pv.Geo

open Go Go.Proofs Go.Pv
set_option maxHeartbeats 4000000
set_option maxRecDepth 100000
set_option linter.unusedSimpArgs false
set_option linter.unusedVariables false
namespace Go.Pv.Geo
/-- The exported functions answer 0 if a point is not in range. -/
def crossX (a b c : Pt) : Int := if (ptOK a && ptOK b && ptOK c) = true then crossE a b c else 0
def sqX (a b : Pt) : Int := if (ptOK a && ptOK b) = true then sqE a b else 0
theorem ok2 {a b : Pt} (h : (ptOK a && ptOK b) = true) : ptOK a = true ∧ ptOK b = true := by simpa using h
theorem ok3 {a b c : Pt} (h : (ptOK a && ptOK b && ptOK c) = true) : ptOK a = true ∧ ptOK b = true ∧ ptOK c = true := by
  simp only [Bool.and_eq_true] at h; exact ⟨h.1.1, h.1.2, h.2⟩
theorem ok4 {a b c d : Pt} (h : (ptOK a && ptOK b && ptOK c && ptOK d) = true) : ptOK a = true ∧ ptOK b = true ∧ ptOK c = true ∧ ptOK d = true := by
  simp only [Bool.and_eq_true] at h; exact ⟨h.1.1.1, h.1.1.2, h.1.2, h.2⟩
theorem c_Cross (a b c : Pt) : Contract Tryz.prog 77 [.agg (encPt a), .agg (encPt b), .agg (encPt c)] (.ret (.int .i64 (crossX a b c))) := by
  have h1 := c_outside_3 a b c
  unfold crossX
  cases hok : ptOK a && ptOK b && ptOK c
  · rw [hok] at h1
    refine contract_of mix Tryz.func77 rfl rfl (by rw [Tryz.ntmps77]; exact Nat.le_of_ble_eq_true rfl) ?_; rw [Tryz.results77, Tryz.ntmps77]; simp only [argsE, Nat.reduceAdd]
    repeat' first
           | (with_reducible apply go_op)
           | (with_reducible apply go_next)
           | ((with_reducible (show evOp _ _ _ _ _ _)); first
             | (((with_reducible apply go_mv_int); rfl; rfl))
             | ((with_reducible apply go_as))
             | (((with_reducible apply go_ld_agg); rfl; rfl; rfl; rfl))
             | (((with_reducible apply go_fn_bool); (exact purL_os rfl (by simp) rfl); (exact h1); rfl))
             | (((with_reducible apply go_bx_agg); rfl; rfl; (exact Nat.le_of_ble_eq_true rfl); rfl; rfl))
             | (((with_reducible apply go_bs3_agg); rfl; rfl; rfl; rfl; rfl; rfl; rfl; rfl; rfl; rfl)))
           | ((with_reducible (show evOps _ _ _ _ _ _)); first
             | (with_reducible apply go_nil))
           | ((with_reducible (show evG _ _ _ _ _)); first
             | (with_reducible apply go_seq)
             | (with_reducible apply go_region)
             | ((with_reducible apply go_cond_t); rfl; rfl)
             | (with_reducible apply go_ret))
           | (with_reducible apply go_kseq)
           | (with_reducible apply go_kseq_ret)
           | ((with_reducible apply end_int); rfl)
    all_goals rfl
  · rw [hok] at h1
    obtain ⟨ha, hb, hc⟩ := ok3 hok
    refine contract_of mix Tryz.func77 rfl rfl (by rw [Tryz.ntmps77]; exact Nat.le_of_ble_eq_true rfl) ?_; rw [Tryz.results77, Tryz.ntmps77]; simp only [argsE, Nat.reduceAdd]
    repeat' first
           | (with_reducible apply go_op)
           | (with_reducible apply go_next)
           | ((with_reducible (show evOp _ _ _ _ _ _)); first
             | (((with_reducible apply go_mv_int); rfl; rfl))
             | ((with_reducible apply go_as))
             | (((with_reducible apply go_ld_agg); rfl; rfl; rfl; rfl))
             | ((with_reducible (show evOp _ (.call _) _ _ _ _)) ; first | ((with_reducible apply go_fn_bool); (exact purL_os rfl (by simp) rfl); (exact h1); rfl) | ((with_reducible apply go_fn_int); rfl; (exact c_cross a b c ha hb hc); rfl))
             | (((with_reducible apply go_bx_agg); rfl; rfl; (exact Nat.le_of_ble_eq_true rfl); rfl; rfl))
             | (((with_reducible apply go_bs3_agg); rfl; rfl; rfl; rfl; rfl; rfl; rfl; rfl; rfl; rfl)))
           | ((with_reducible (show evOps _ _ _ _ _ _)); first
             | (with_reducible apply go_nil))
           | ((with_reducible (show evG _ _ _ _ _)); first
             | (with_reducible apply go_seq)
             | (with_reducible apply go_region)
             | ((with_reducible apply go_cond_f); rfl; rfl)
             | (with_reducible apply go_ret)
             | (with_reducible apply go_skipc))
           | (with_reducible apply go_kseq)
           | ((with_reducible apply end_int); rfl)
    all_goals rfl
theorem c_Square (a b : Pt) : Contract Tryz.prog 102 [.agg (encPt a), .agg (encPt b)] (.ret (.int .i64 (sqX a b))) := by
  have h1 := c_outside_2 a b
  unfold sqX
  cases hok : ptOK a && ptOK b
  · rw [hok] at h1
    refine contract_of mix Tryz.func102 rfl rfl (by rw [Tryz.ntmps102]; exact Nat.le_of_ble_eq_true rfl) ?_; rw [Tryz.results102, Tryz.ntmps102]; simp only [argsE, Nat.reduceAdd]
    repeat' first
           | (with_reducible apply go_op)
           | (with_reducible apply go_next)
           | ((with_reducible (show evOp _ _ _ _ _ _)); first
             | (((with_reducible apply go_mv_int); rfl; rfl))
             | ((with_reducible apply go_as))
             | (((with_reducible apply go_ld_agg); rfl; rfl; rfl; rfl))
             | (((with_reducible apply go_fn_bool); (exact purL_os rfl (by simp) rfl); (exact h1); rfl))
             | (((with_reducible apply go_bx_agg); rfl; rfl; (exact Nat.le_of_ble_eq_true rfl); rfl; rfl))
             | (((with_reducible apply go_bs2_agg); rfl; rfl; rfl; rfl; rfl; rfl; rfl; rfl)))
           | ((with_reducible (show evOps _ _ _ _ _ _)); first
             | (with_reducible apply go_nil))
           | ((with_reducible (show evG _ _ _ _ _)); first
             | (with_reducible apply go_seq)
             | (with_reducible apply go_region)
             | ((with_reducible apply go_cond_t); rfl; rfl)
             | (with_reducible apply go_ret))
           | (with_reducible apply go_kseq)
           | (with_reducible apply go_kseq_ret)
           | ((with_reducible apply end_int); rfl)
    all_goals rfl
  · rw [hok] at h1
    obtain ⟨ha, hb⟩ := ok2 hok
    refine contract_of mix Tryz.func102 rfl rfl (by rw [Tryz.ntmps102]; exact Nat.le_of_ble_eq_true rfl) ?_; rw [Tryz.results102, Tryz.ntmps102]; simp only [argsE, Nat.reduceAdd]
    repeat' first
           | (with_reducible apply go_op)
           | (with_reducible apply go_next)
           | ((with_reducible (show evOp _ _ _ _ _ _)); first
             | (((with_reducible apply go_mv_int); rfl; rfl))
             | ((with_reducible apply go_as))
             | (((with_reducible apply go_ld_agg); rfl; rfl; rfl; rfl))
             | ((with_reducible (show evOp _ (.call _) _ _ _ _)) ; first | ((with_reducible apply go_fn_bool); (exact purL_os rfl (by simp) rfl); (exact h1); rfl) | ((with_reducible apply go_fn_int); rfl; (exact c_dot a b b ha hb hb); rfl))
             | (((with_reducible apply go_bx_agg); rfl; rfl; (exact Nat.le_of_ble_eq_true rfl); rfl; rfl))
             | (((with_reducible apply go_bs2_agg); rfl; rfl; rfl; rfl; rfl; rfl; rfl; rfl)))
           | ((with_reducible (show evOps _ _ _ _ _ _)); first
             | (with_reducible apply go_nil))
           | ((with_reducible (show evG _ _ _ _ _)); first
             | (with_reducible apply go_seq)
             | (with_reducible apply go_region)
             | ((with_reducible apply go_cond_f); rfl; rfl)
             | (with_reducible apply go_ret)
             | (with_reducible apply go_skipc))
           | (with_reducible apply go_kseq)
           | ((with_reducible apply end_int); rfl)
    all_goals rfl
def cr (b c d : Pt) : Int := (b.x - d.x) * (c.y - d.y) - (b.y - d.y) * (c.x - d.x)
def rdetE (a b c d : Pt) : Int := nrm a d * cr b c d - nrm b d * cr a c d + nrm c d * cr a b d
theorem rdet_eq (a b c d : Pt) : rdetE a b c d = detE a b c d := by
  simp only [rdetE, detE, nrm, cr, crs]; grind
theorem det_swap (a b c d : Pt) : detE b a c d = -detE a b c d := by
  simp only [detE, nrm, crs]; grind
theorem cross_swap (a b c : Pt) : crossE b a c = -crossE a b c := by
  simp only [crossE]; grind
theorem sign_neg (n : Int) : signE (-n) = -signE n := by unfold signE; (repeat' split) <;> omega
end Go.Pv.Geo

open Go Go.Proofs Go.Pv
set_option maxHeartbeats 4000000
set_option maxRecDepth 100000
set_option linter.unusedSimpArgs false
set_option linter.unusedVariables false
namespace Go.Pv.Geo
instance tintI' : TInt Tryz.prog 3 .i64 := ⟨by kernel_rfl⟩
instance tflo : TFloat Tryz.prog 169 := ⟨by kernel_rfl⟩
theorem ext1 : Extern.findNext Tryz.f155 = none := by kernel_rfl
theorem ext2 : Extern.find Tryz.f155 = some Extern.MathSqrt.sqrt := by kernel_rfl
theorem ext3 : (Tryz.f155.name == "runtime.NumGoroutine") = false := by kernel_rfl
theorem ext4 : Tryz.f155.body.isNone = true := by kernel_rfl
theorem run_ext (x r : Nat) (h : FloatKind.f64.format.sqrt x = some r) (w : World) : (callFunc 155 #[.float .f64 x]).run Tryz.prog w = .ok (.value (.float .f64 r)) w := by
  have hs : Extern.MathSqrt.sqrt #[.float .f64 x] = pure (.float .f64 r) := by
    show (match FloatKind.f64.format.sqrt x with
      | some r => (pure (Value.float .f64 r) : Sem Value)
      | none => do pure (Value.float .f64 (← choose (.nanBits .f64 x x)))) = _
    rw [h]
  unfold callFunc
  have n1 : ¬ Tryz.f155.name = "runtime.NumGoroutine" := by simpa using ext3
  have n2 : Tryz.f155.body = none := by simpa using ext4
  simp [Tryz.func155, ext1, ext2, n1, n2, hs]
theorem sqrt_calls (x r : Nat) (h : FloatKind.f64.format.sqrt x = some r) (w : World) : Calls Tryz.prog 141 #[.float .f64 x] w fun e w' => e = .returned (.float .f64 r) ∧ w' = w := by
  have h1 := run_ext x r h
  go_enter Tryz.func141, Tryz.ntmps141
  go_wp2
  go_ret
  exact ⟨rfl, rfl⟩
theorem c_Sqrt (x r : Nat) (h : FloatKind.f64.format.sqrt x = some r) : Contract Tryz.prog 141 [.float .f64 x] (.ret (.float .f64 r)) := by
  refine ⟨⟨Tryz.f141, Tryz.func141, rfl, by kernel_rfl⟩, fun S w args hS ⟨hl, ha⟩ => ?_⟩
  have e : args = #[.float .f64 x] := by
    match args, hl, ha with
    | ⟨[v]⟩, _, ha =>
      have := ha 0 v _ rfl rfl
      cases this with
      | float k n => rfl
  subst e
  refine (sqrt_calls x r h w).mono ?_
  rintro e w' ⟨rfl, rfl⟩
  refine ⟨Go.Pv.Below.refl _ _, fun _ => False, fun g hg => hg.elim, _, rfl, fun n => ⟨fun _ => .pending, ⟨fun b blk hb => ?_, fun b _ => .inr rfl, fun b b' g h => h.elim, fun b g h => h.elim, fun g hg => hg.elim⟩, .pure _ _ (.float _ _), fun b _ => rfl⟩⟩
  cases hb

/-- The least number whose square is at least s. -/
def IsSpan (s n : Int) : Prop := 0 ≤ n ∧ s ≤ n * n ∧ ∀ m, 0 ≤ m → m < n → m * m < s
theorem span_uniq {s n m : Int} (h : IsSpan s n) (h' : IsSpan s m) : n = m := by
  rcases Int.lt_trichotomy n m with hlt | he | hlt
  · have := h'.2.2 n h.1 hlt; have := h.2.1; omega
  · exact he
  · have := h.2.2 m h'.1 hlt; have := h'.2.1; omega
noncomputable def spanE (s : Int) : Int := Classical.epsilon (IsSpan s)
theorem spanE_eq {s n : Int} (h : IsSpan s n) : spanE s = n := span_uniq (Classical.epsilon_spec (p := IsSpan s) ⟨n, h⟩) h
theorem sq_mono {m n : Int} (h0 : 0 ≤ m) (h : m ≤ n) : m * m ≤ n * n := Int.mul_le_mul h h h0 (by omega)
theorem sqE_bd {a b : Pt} (ha : ptOK a = true) (hb : ptOK b = true) : 0 ≤ sqE a b ∧ sqE a b ≤ 8000000000000 := by
  have h1 := pt_bd ha
  have h2 := pt_bd hb
  have m1 := mul4 (u := b.x - a.x) (v := b.x - a.x) (by omega) (by omega)
  have m2 := mul4 (u := b.y - a.y) (v := b.y - a.y) (by omega) (by omega)
  have n1 : 0 ≤ (b.x - a.x) * (b.x - a.x) := by rcases Int.le_total 0 (b.x - a.x) with h | h; exact Int.mul_nonneg h h; exact Int.mul_nonneg_of_nonpos_of_nonpos h h
  have n2 : 0 ≤ (b.y - a.y) * (b.y - a.y) := by rcases Int.le_total 0 (b.y - a.y) with h | h; exact Int.mul_nonneg h h; exact Int.mul_nonneg_of_nonpos_of_nonpos h h
  simp only [sqE, dotE]
  omega
theorem span_ex {s : Int} : ∀ N : Nat, s ≤ (N : Int) * N → ∃ n : Int, n ≤ N ∧ IsSpan s n
  | 0, h => ⟨0, by omega, by omega, by omega, fun m h1 h2 => by omega⟩
  | N + 1, h => by
    by_cases h' : s ≤ (N : Int) * N
    · obtain ⟨n, h1, h2⟩ := span_ex N h'
      exact ⟨n, by omega, h2⟩
    · exact ⟨((N + 1 : Nat) : Int), by omega, by omega, h, fun m h1 h2 => by have := sq_mono h1 (show m ≤ (N : Int) by omega); omega⟩
theorem span_is {s : Int} (h : s ≤ 8000000000000) : IsSpan s (spanE s) ∧ spanE s ≤ 4000000 := by
  obtain ⟨n, h1, h2⟩ := span_ex (s := s) 4000000 (by omega)
  rw [spanE_eq h2]
  exact ⟨h2, h1⟩
theorem c_span (a b : Pt) (ha : ptOK a = true) (hb : ptOK b = true) : Contract Tryz.prog 111 [.agg (encPt a), .agg (encPt b)] (.ret (.int .i64 (spanE (sqE a b)))) := by
  have hbd := sqE_bd ha hb
  have hd : Contract Tryz.prog 110 [.agg (encPt a), .agg (encPt b), .agg (encPt b)] (.ret (.int .i64 (sqE a b))) := c_dot a b b ha hb hb
  generalize sqE a b = s at *
  obtain ⟨r, n0, hr, hn, hn0⟩ := Sq.sqrt_small s.toNat (by omega)
  have hsn : ((s.toNat : Nat) : Int) = s := by omega
  rw [hsn] at hr
  have hS := c_Sqrt _ _ hr
  refine contract_of mix Tryz.func111 rfl rfl (by rw [Tryz.ntmps111]; exact Nat.le_of_ble_eq_true rfl) ?_; rw [Tryz.results111, Tryz.ntmps111]; simp only [argsE, Nat.reduceAdd]
  repeat' first
           | (with_reducible apply go_op)
           | (with_reducible apply go_next)
           | ((with_reducible (show evOp _ _ _ _ _ _)); first
             | (((with_reducible apply go_mv_int); rfl; rfl))
             | ((with_reducible apply go_as))
             | (((with_reducible apply go_ld_agg); rfl; rfl; rfl; rfl))
             | ((with_reducible (show evOp _ (.call _) _ _ _ _)) ; first | ((with_reducible apply go_fn_int); rfl; (exact hd); rfl) | ((with_reducible apply go_fn_float); rfl; (exact hS); rfl))
             | (((with_reducible apply go_conv_if); rfl; rfl))
             | (((with_reducible apply go_bx_agg); rfl; rfl; (exact Nat.le_of_ble_eq_true rfl); rfl; rfl)))
           | ((with_reducible (show evOps _ _ _ _ _ _)); first
             | (with_reducible apply go_nil))
           | ((with_reducible (show evG _ _ _ _ _)); first
             | (with_reducible apply go_seq)
             | (with_reducible apply go_region))
           | (with_reducible apply go_kseq)
  refine go_conv_fi rfl hn (by omega) rfl ?_
  repeat' first
           | (with_reducible apply go_op)
           | (with_reducible apply go_next)
           | ((with_reducible (show evOp _ _ _ _ _ _)); first
             | (((with_reducible apply go_mv_int); rfl; rfl))
             | ((with_reducible apply go_as)))
           | ((with_reducible (show evOps _ _ _ _ _ _)); first
             | (with_reducible apply go_nil))
           | ((with_reducible (show evG _ _ _ _ _)); first
             | (with_reducible apply go_seq)
             | (with_reducible apply go_block))
           | (with_reducible apply go_kseq)
  refine go_while (fun n : Int => (20000000 - n).toNat) (fun n => ⟨[(6, .int .i64 n), (5, .int .i64 s)], [], 0, 36⟩) (fun n => 0 ≤ n ∧ n ≤ 16777216) (n0 : Int)
    (entails_eq (nx := 0) (k := 0) (ns := []) (ks := [6, 5]) [] rfl (by simp) (by kernel_rfl)) (by omega) ?_
  rintro n ⟨h1, h2⟩
  have hnn := sq_mono h1 h2
  have hnn0 := Int.mul_nonneg h1 h1
  repeat' first
           | (with_reducible apply go_op)
           | (with_reducible apply go_next)
           | ((with_reducible (show evOp _ _ _ _ _ _)); first
             | (((with_reducible apply go_mv_int); rfl; rfl))
             | ((with_reducible apply go_as))
             | ((with_reducible (show evOp _ (.binOp _ _ _ _ _) _ _ _ _)) ; first | ((with_reducible apply go_cmp); rfl; rfl; rfl; rfl) | ((with_reducible apply go_add); rfl; rfl; rfl; omega) | ((with_reducible apply go_mul); rfl; rfl; rfl; omega)))
           | ((with_reducible (show evOps _ _ _ _ _ _)); first
             | (with_reducible apply go_nil))
           | ((with_reducible (show evG _ _ _ _ _)); first
             | (with_reducible apply go_seq)
             | (with_reducible apply go_region)
             | (((with_reducible apply go_cond); rfl) <;> (intro h; simp only [h]; try simp only [decide_eq_true_eq, decide_eq_false_iff_not, Bool.not_eq_true', Bool.not_eq_false', Bool.not_true, Bool.not_false] at h; try exact absurd trivial h))
             | (with_reducible apply go_skipc)
             | (with_reducible apply go_block)
             | (with_reducible apply go_exit))
           | (with_reducible apply go_kseq)
           | (with_reducible apply go_kblock)
           | (with_reducible apply go_kblock_exit)
           | (with_reducible apply go_kseq_exit)
  · have h3 : n < 3000000 := by
      rcases Int.lt_or_le n 3000000 with h | h
      · exact h
      · have := sq_mono (show (0 : Int) ≤ 3000000 by omega) h; omega
    exact ⟨n + 1, by omega, ⟨by omega, by omega⟩, entails_eq (nx := 0) (k := 0) (ns := []) (ks := [6, 5]) [] rfl (by simp) (by kernel_rfl)⟩
  refine go_while (fun n : Int => n.toNat) (fun n => ⟨[(6, .int .i64 n), (5, .int .i64 s)], [], 0, 36⟩) (fun n => (0 ≤ n ∧ n ≤ 16777216) ∧ s ≤ n * n) n
    (entails_eq (nx := 0) (k := 0) (ns := []) (ks := [6, 5]) [] rfl (by simp) (by kernel_rfl)) ⟨⟨h1, h2⟩, by omega⟩ ?_
  clear hnn hnn0 h1 h2
  rintro m ⟨⟨h1, h2⟩, h3⟩
  have hmm : 0 < m → 0 ≤ (m - 1) * (m - 1) ∧ (m - 1) * (m - 1) ≤ 281474976710656 := fun h => ⟨Int.mul_nonneg (by omega) (by omega), by have := sq_mono (show 0 ≤ m - 1 by omega) (show m - 1 ≤ 16777216 by omega); omega⟩
  by_cases h0 : 0 < m
  · have hm2 := hmm h0
    repeat' first
           | (with_reducible apply go_op)
           | (with_reducible apply go_next)
           | ((with_reducible (show evOp _ _ _ _ _ _)); first
             | ((with_reducible (show evOp _ (.move _) _ _ _ _)) ; first | ((with_reducible apply go_mv_int); rfl; rfl) | ((with_reducible apply go_mv_bool); rfl; rfl))
             | ((with_reducible apply go_as))
             | ((with_reducible (show evOp _ (.binOp _ _ _ _ _) _ _ _ _)) ; first | ((with_reducible apply go_cmp); rfl; rfl; rfl; rfl) | ((with_reducible apply go_sub); rfl; rfl; rfl; omega) | ((with_reducible apply go_mul); rfl; rfl; rfl; omega))
             | (((with_reducible apply go_pick); rfl; rfl; rfl)))
           | ((with_reducible (show evOps _ _ _ _ _ _)); first
             | (with_reducible apply go_nil)
             | ((with_reducible apply go_run); rfl; rfl)
             | ((with_reducible apply go_pass); rfl; rfl; rfl)
             | (((with_reducible apply go_guard); rfl) <;> (intro h; simp only [h, Bool.not_true, Bool.not_false]; (try with_reducible (refine ⟨rfl, ?_⟩)); try simp only [decide_eq_true_eq, decide_eq_false_iff_not, Bool.not_eq_true', Bool.not_eq_false', Bool.not_true, Bool.not_false] at h; try exact absurd trivial h)))
           | ((with_reducible (show evG _ _ _ _ _)); first
             | (with_reducible apply go_seq)
             | (with_reducible apply go_region)
             | ((with_reducible apply go_cond_f); rfl; rfl)
             | (((with_reducible apply go_cond); rfl) <;> (intro h; simp only [h]; try simp only [decide_eq_true_eq, decide_eq_false_iff_not, Bool.not_eq_true', Bool.not_eq_false', Bool.not_true, Bool.not_false] at h; try exact absurd trivial h))
             | (with_reducible apply go_ret)
             | (with_reducible apply go_skipc)
             | (with_reducible apply go_block)
             | (with_reducible apply go_exit))
           | (with_reducible apply go_kseq)
           | (with_reducible apply go_kblock)
           | (with_reducible apply go_kblock_exit)
           | (with_reducible apply go_kseq_exit)
           | ((with_reducible apply end_int); rfl)
    all_goals first
      | exact ⟨m - 1, by omega, ⟨⟨by omega, by omega⟩, by omega⟩, entails_eq (nx := 0) (k := 0) (ns := []) (ks := [6, 5]) [] rfl (by simp) (by kernel_rfl)⟩
      | exact (spanE_eq ⟨h1, h3, fun k hk1 hk2 => by have := sq_mono hk1 (show k ≤ m - 1 by omega); omega⟩).symm
      | (exfalso; omega)
      | trace_state
  · repeat' first
           | (with_reducible apply go_op)
           | (with_reducible apply go_next)
           | ((with_reducible (show evOp _ _ _ _ _ _)); first
             | ((with_reducible (show evOp _ (.move _) _ _ _ _)) ; first | ((with_reducible apply go_mv_int); rfl; rfl) | ((with_reducible apply go_mv_bool); rfl; rfl))
             | ((with_reducible apply go_as))
             | ((with_reducible (show evOp _ (.binOp _ _ _ _ _) _ _ _ _)) ; first | ((with_reducible apply go_cmp); rfl; rfl; rfl; rfl) | ((with_reducible apply go_sub); rfl; rfl; rfl; omega) | ((with_reducible apply go_mul); rfl; rfl; rfl; omega))
             | (((with_reducible apply go_pick); rfl; rfl; rfl)))
           | ((with_reducible (show evOps _ _ _ _ _ _)); first
             | (with_reducible apply go_nil)
             | ((with_reducible apply go_run); rfl; rfl)
             | ((with_reducible apply go_pass); rfl; rfl; rfl)
             | (((with_reducible apply go_guard); rfl) <;> (intro h; simp only [h, Bool.not_true, Bool.not_false]; (try with_reducible (refine ⟨rfl, ?_⟩)); try simp only [decide_eq_true_eq, decide_eq_false_iff_not, Bool.not_eq_true', Bool.not_eq_false', Bool.not_true, Bool.not_false] at h; try exact absurd trivial h)))
           | ((with_reducible (show evG _ _ _ _ _)); first
             | (with_reducible apply go_seq)
             | (with_reducible apply go_region)
             | ((with_reducible apply go_cond_f); rfl; rfl)
             | (((with_reducible apply go_cond); rfl) <;> (intro h; simp only [h]; try simp only [decide_eq_true_eq, decide_eq_false_iff_not, Bool.not_eq_true', Bool.not_eq_false', Bool.not_true, Bool.not_false] at h; try exact absurd trivial h))
             | (with_reducible apply go_ret)
             | (with_reducible apply go_skipc)
             | (with_reducible apply go_block)
             | (with_reducible apply go_exit))
           | (with_reducible apply go_kseq)
           | (with_reducible apply go_kblock)
           | (with_reducible apply go_kblock_exit)
           | (with_reducible apply go_kseq_exit)
           | ((with_reducible apply end_int); rfl)
    all_goals first
      | exact (spanE_eq ⟨h1, h3, fun k hk1 hk2 => by omega⟩).symm
      | (exfalso; omega)
      | trace_state
noncomputable def spanX (a b : Pt) : Int := if (ptOK a && ptOK b) = true then spanE (sqE a b) else 0
theorem c_Span (a b : Pt) : Contract Tryz.prog 78 [.agg (encPt a), .agg (encPt b)] (.ret (.int .i64 (spanX a b))) := by
  have h1 := c_outside_2 a b
  unfold spanX
  cases hok : ptOK a && ptOK b
  · rw [hok] at h1
    refine contract_of mix Tryz.func78 rfl rfl (by rw [Tryz.ntmps78]; exact Nat.le_of_ble_eq_true rfl) ?_; rw [Tryz.results78, Tryz.ntmps78]; simp only [argsE, Nat.reduceAdd]
    repeat' first
           | (with_reducible apply go_op)
           | (with_reducible apply go_next)
           | ((with_reducible (show evOp _ _ _ _ _ _)); first
             | (((with_reducible apply go_mv_int); rfl; rfl))
             | ((with_reducible apply go_as))
             | (((with_reducible apply go_ld_agg); rfl; rfl; rfl; rfl))
             | (((with_reducible apply go_fn_bool); (exact purL_os rfl (by simp) rfl); (exact h1); rfl))
             | (((with_reducible apply go_bx_agg); rfl; rfl; (exact Nat.le_of_ble_eq_true rfl); rfl; rfl))
             | (((with_reducible apply go_bs2_agg); rfl; rfl; rfl; rfl; rfl; rfl; rfl; rfl)))
           | ((with_reducible (show evOps _ _ _ _ _ _)); first
             | (with_reducible apply go_nil))
           | ((with_reducible (show evG _ _ _ _ _)); first
             | (with_reducible apply go_seq)
             | (with_reducible apply go_region)
             | ((with_reducible apply go_cond_t); rfl; rfl)
             | (with_reducible apply go_ret))
           | (with_reducible apply go_kseq)
           | (with_reducible apply go_kseq_ret)
           | ((with_reducible apply end_int); rfl)
    all_goals rfl
  · rw [hok] at h1
    obtain ⟨ha, hb⟩ := ok2 hok
    refine contract_of mix Tryz.func78 rfl rfl (by rw [Tryz.ntmps78]; exact Nat.le_of_ble_eq_true rfl) ?_; rw [Tryz.results78, Tryz.ntmps78]; simp only [argsE, Nat.reduceAdd]
    repeat' first
           | (with_reducible apply go_op)
           | (with_reducible apply go_next)
           | ((with_reducible (show evOp _ _ _ _ _ _)); first
             | (((with_reducible apply go_mv_int); rfl; rfl))
             | ((with_reducible apply go_as))
             | (((with_reducible apply go_ld_agg); rfl; rfl; rfl; rfl))
             | ((with_reducible (show evOp _ (.call _) _ _ _ _)) ; first | ((with_reducible apply go_fn_bool); (exact purL_os rfl (by simp) rfl); (exact h1); rfl) | ((with_reducible apply go_fn_int); rfl; (exact c_span a b ha hb); rfl))
             | (((with_reducible apply go_bx_agg); rfl; rfl; (exact Nat.le_of_ble_eq_true rfl); rfl; rfl))
             | (((with_reducible apply go_bs2_agg); rfl; rfl; rfl; rfl; rfl; rfl; rfl; rfl)))
           | ((with_reducible (show evOps _ _ _ _ _ _)); first
             | (with_reducible apply go_nil))
           | ((with_reducible (show evG _ _ _ _ _)); first
             | (with_reducible apply go_seq)
             | (with_reducible apply go_region)
             | ((with_reducible apply go_cond_f); rfl; rfl)
             | (with_reducible apply go_ret)
             | (with_reducible apply go_skipc))
           | (with_reducible apply go_kseq)
           | ((with_reducible apply end_int); rfl)
    all_goals rfl
end Go.Pv.Geo

open Go Go.Proofs Go.Pv
set_option maxHeartbeats 4000000
set_option maxRecDepth 100000
set_option linter.unusedSimpArgs false
set_option linter.unusedVariables false
namespace Go.Pv.Geo
def eqP (a b : Pt) : Bool := decide (a.x = b.x) && (decide (a.y = b.y) && true)
theorem eqP_iff {a b : Pt} : eqP a b = true ↔ a = b := by cases a; cases b; simp [eqP]
theorem sq_pos {a b : Pt} (h : eqP a b = false) : 0 < sqE a b := by
  have hne : a ≠ b := fun e => by rw [eqP_iff.2 e] at h; cases h
  have s1 : ∀ u : Int, 0 ≤ u * u := fun u => by rcases Int.le_total 0 u with h | h; exact Int.mul_nonneg h h; exact Int.mul_nonneg_of_nonpos_of_nonpos h h
  have s2 : ∀ u : Int, u ≠ 0 → 0 < u * u := fun u hu => by
    rcases Int.lt_or_gt_of_ne hu with h | h
    · exact Int.mul_pos_of_neg_of_neg h h
    · exact Int.mul_pos h h
  have h1 := s1 (b.x - a.x)
  have h2 := s1 (b.y - a.y)
  simp only [sqE, dotE]
  by_cases hx : b.x - a.x = 0
  · have hy : b.y - a.y ≠ 0 := fun hy => hne (by cases a; cases b; simp at hx hy ⊢; omega)
    have := s2 _ hy
    omega
  · have := s2 _ hx
    omega
theorem span_pos {s : Int} (h : 0 < s) (h' : s ≤ 8000000000000) : 0 < spanE s := by
  have h1 := (span_is h').1
  rcases Int.lt_or_eq_of_le h1.1 with hp | he
  · exact hp
  · have := h1.2.1
    rw [← he] at this
    omega
def lineE (a b p : Pt) : Int := if (ptOK a && ptOK b && ptOK p) = false then 2 else if eqP a b = true then 11 else 0
theorem c_lineErr (a b p : Pt) : Contract Tryz.prog 109 [.agg (encPt a), .agg (encPt b), .agg (encPt p)] (.ret (.int .i64 (lineE a b p))) := by
  have h1 := c_outside_3 a b p
  cases hok : ptOK a && ptOK b && ptOK p
  · rw [hok] at h1
    have e : lineE a b p = 2 := if_pos hok
    rw [e]
    refine contract_of mix Tryz.func109 rfl rfl (by rw [Tryz.ntmps109]; exact Nat.le_of_ble_eq_true rfl) ?_; rw [Tryz.results109, Tryz.ntmps109]; simp only [argsE, Nat.reduceAdd]
    repeat' first
           | (with_reducible apply go_op)
           | (with_reducible apply go_next)
           | ((with_reducible (show evOp _ _ _ _ _ _)); first
             | ((with_reducible (show evOp _ (.move _) _ _ _ _)) ; first | ((with_reducible apply go_mv_int); rfl; rfl) | ((with_reducible apply go_mv_bool); rfl; rfl))
             | ((with_reducible apply go_as))
             | (((with_reducible apply go_ld_agg); rfl; rfl; rfl; rfl))
             | (((with_reducible apply go_fn_bool); (exact purL_os rfl (by simp) rfl); (exact h1); rfl))
             | (((with_reducible apply go_bx_agg); rfl; rfl; (exact Nat.le_of_ble_eq_true rfl); rfl; rfl))
             | (((with_reducible apply go_bs3_agg); rfl; rfl; rfl; rfl; rfl; rfl; rfl; rfl; rfl; rfl)))
           | ((with_reducible (show evOps _ _ _ _ _ _)); first
             | (with_reducible apply go_nil))
           | ((with_reducible (show evG _ _ _ _ _)); first
             | (with_reducible apply go_seq)
             | (with_reducible apply go_region)
             | ((with_reducible apply go_cond_t); rfl; rfl)
             | (with_reducible apply go_ret)
             | (with_reducible apply go_block))
           | (with_reducible apply go_kseq)
           | (with_reducible apply go_kseq_ret)
           | (with_reducible apply go_kblock_ret)
           | ((with_reducible apply end_int); rfl)
           | (with_reducible rfl)
    all_goals rfl
  · rw [hok] at h1
    have e : lineE a b p = if eqP a b = true then 11 else 0 := if_neg (by rw [hok]; simp)
    rw [e]
    refine contract_of mix Tryz.func109 rfl rfl (by rw [Tryz.ntmps109]; exact Nat.le_of_ble_eq_true rfl) ?_; rw [Tryz.results109, Tryz.ntmps109]; simp only [argsE, Nat.reduceAdd]
    repeat' first
           | (with_reducible apply go_op)
           | (with_reducible apply go_next)
           | ((with_reducible (show evOp _ _ _ _ _ _)); first
             | ((with_reducible (show evOp _ (.move _) _ _ _ _)) ; first | ((with_reducible apply go_mv_int); rfl; rfl) | ((with_reducible apply go_mv_bool); rfl; rfl))
             | ((with_reducible apply go_as))
             | (((with_reducible apply go_ld_agg); rfl; rfl; rfl; rfl))
             | (((with_reducible apply go_eql_agg); rfl; rfl; rfl; rfl))
             | (((with_reducible apply go_fn_bool); (exact purL_os rfl (by simp) rfl); (exact h1); rfl))
             | (((with_reducible apply go_bx_agg); rfl; rfl; (exact Nat.le_of_ble_eq_true rfl); rfl; rfl))
             | (((with_reducible apply go_bs3_agg); rfl; rfl; rfl; rfl; rfl; rfl; rfl; rfl; rfl; rfl)))
           | ((with_reducible (show evOps _ _ _ _ _ _)); first
             | (with_reducible apply go_nil))
           | ((with_reducible (show evG _ _ _ _ _)); first
             | (with_reducible apply go_seq)
             | (with_reducible apply go_region)
             | ((with_reducible apply go_cond_f); rfl; rfl)
             | (((with_reducible apply go_cond); rfl) <;> (intro h; simp only [h]; try simp only [decide_eq_true_eq, decide_eq_false_iff_not, Bool.not_eq_true', Bool.not_eq_false', Bool.not_true, Bool.not_false] at h; try exact absurd trivial h))
             | (with_reducible apply go_ret)
             | (with_reducible apply go_skipc)
             | (with_reducible apply go_block))
           | (with_reducible apply go_kseq)
           | (with_reducible apply go_kseq_ret)
           | (with_reducible apply go_kblock)
           | (with_reducible apply go_kblock_ret)
           | ((with_reducible apply end_int); rfl)
    · rw [if_pos (show eqP a b = true by assumption)]
    · rw [if_neg (by rw [show eqP a b = false by assumption]; simp)]
noncomputable def offE (a b p : Pt) : Int := absE (crossE a b p) / spanE (sqE a b)
noncomputable def alongE (a b p : Pt) : Int := dotE a b p / spanE (sqE a b)
theorem mx_abs (n : Int) : max n (0 - n) = absE n := by unfold absE; split <;> omega
theorem absE_nn (n : Int) : 0 ≤ absE n := by unfold absE; split <;> omega
theorem absE_le {n B : Int} (h : -B ≤ n ∧ n ≤ B) : absE n ≤ B := by unfold absE; split <;> omega
theorem c_offset (a b p : Pt) (ha : ptOK a = true) (hb : ptOK b = true) (hp : ptOK p = true) (hne : eqP a b = false) : Contract Tryz.prog 112 [.agg (encPt a), .agg (encPt b), .agg (encPt p)] (.ret (.int .i64 (offE a b p))) := by
  have hx := c_cross a b p ha hb hp
  have hs := c_span a b ha hb
  have h1 := crossE_bd ha hb hp
  have h2 := span_pos (sq_pos hne) (sqE_bd ha hb).2
  have h3 := (span_is (sqE_bd ha hb).2).2
  unfold offE
  rw [← mx_abs]
  refine contract_of mix Tryz.func112 rfl rfl (by rw [Tryz.ntmps112]; exact Nat.le_of_ble_eq_true rfl) ?_; rw [Tryz.results112, Tryz.ntmps112]; simp only [argsE, Nat.reduceAdd]
  repeat' first
           | (with_reducible apply go_op)
           | (with_reducible apply go_next)
           | ((with_reducible (show evOp _ _ _ _ _ _)); first
             | (((with_reducible apply go_mv_int); rfl; rfl))
             | ((with_reducible apply go_as))
             | (((with_reducible apply go_ld_agg); rfl; rfl; rfl; rfl))
             | (((with_reducible apply go_quo_pos); rfl; rfl; rfl; omega))
             | ((with_reducible (show evOp _ (.call _) _ _ _ _)) ; first | ((with_reducible apply go_max); rfl; rfl; rfl) | ((with_reducible apply go_fn_int); rfl; (exact hx); rfl) | ((with_reducible apply go_fn_int); rfl; (exact hs); rfl))
             | (((with_reducible apply go_neg); rfl; rfl; omega))
             | (((with_reducible apply go_bx_agg); rfl; rfl; (exact Nat.le_of_ble_eq_true rfl); rfl; rfl)))
           | ((with_reducible (show evOps _ _ _ _ _ _)); first
             | (with_reducible apply go_nil))
           | ((with_reducible (show evG _ _ _ _ _)); first
             | (with_reducible apply go_seq)
             | (with_reducible apply go_region)
             | (with_reducible apply go_ret))
           | (with_reducible apply go_kseq)
           | ((with_reducible apply end_int); rfl)
           | (with_reducible rfl)
  all_goals trace_state
theorem c_mod (n m : Int) (hm : 0 < m) (hm' : m ≤ 1000000000000) (hn : -1000000000000000 ≤ n ∧ n ≤ 1000000000000000) : Contract Tryz.prog 143 [.int .i64 n, .int .i64 m] (.ret (.int .i64 (n % m))) := by
  have e1 := Int.emod_nonneg n (show m ≠ 0 by omega)
  have e2 := Int.emod_lt_of_pos n hm
  have e3 : n.tmod m = if 0 ≤ n ∨ m ∣ n then n % m else n % m - m := by
    rw [Int.tmod_eq_emod]
    split <;> rename_i h
    · omega
    · rw [Int.natAbs_of_nonneg (by omega)]
  refine contract_of mix Tryz.func143 rfl rfl (by rw [Tryz.ntmps143]; exact Nat.le_of_ble_eq_true rfl) ?_; rw [Tryz.results143, Tryz.ntmps143]; simp only [argsE, Nat.reduceAdd]
  repeat' first
           | (with_reducible apply go_op)
           | (with_reducible apply go_next)
           | ((with_reducible (show evOp _ _ _ _ _ _)); first
             | (((with_reducible apply go_mv_int); rfl; rfl))
             | ((with_reducible apply go_as))
             | ((with_reducible (show evOp _ (.binOp _ _ _ _ _) _ _ _ _)) ; first | ((with_reducible apply go_cmp); rfl; rfl; rfl; rfl) | ((with_reducible apply go_add); rfl; rfl; rfl; omega) | ((with_reducible apply go_rem); rfl; rfl; rfl; omega)))
           | ((with_reducible (show evOps _ _ _ _ _ _)); first
             | (with_reducible apply go_nil))
           | ((with_reducible (show evG _ _ _ _ _)); first
             | (with_reducible apply go_seq)
             | (with_reducible apply go_region)
             | (((with_reducible apply go_cond); rfl) <;> (intro h; simp only [h]; try simp only [decide_eq_true_eq, decide_eq_false_iff_not, Bool.not_eq_true', Bool.not_eq_false', Bool.not_true, Bool.not_false] at h; try exact absurd trivial h))
             | (with_reducible apply go_ret)
             | (with_reducible apply go_skipc))
           | (with_reducible apply go_kseq)
           | ((with_reducible apply end_int); rfl)
  · split at e3 <;> omega
  · split at e3 <;> omega
theorem along_lem {d s : Int} (hs : 0 < s) : (d.tdiv s * s > d → d.tdiv s - 1 = d / s) ∧ (¬ d.tdiv s * s > d → d.tdiv s = d / s) := by
  have e := Int.tdiv_eq_ediv (a := d) (b := s)
  rw [Int.sign_eq_one_of_pos hs] at e
  have e1 := Int.mul_ediv_add_emod d s
  have e2 := Int.emod_nonneg d (show s ≠ 0 by omega)
  have e3 := Int.emod_lt_of_pos d hs
  rw [Int.mul_comm] at e1
  generalize hq : d / s = q at *
  split at e
  · rename_i h
    have e4 : d.tdiv s = q := by omega
    rw [e4]
    exact ⟨fun h => by omega, fun _ => rfl⟩
  · rename_i h
    have e4 : d.tdiv s = q + 1 := by omega
    rw [e4, Int.add_mul, Int.one_mul]
    have hz : d % s ≠ 0 := fun hz => h (.inr (Int.dvd_of_emod_eq_zero hz))
    exact ⟨fun _ => by omega, fun h => by omega⟩
theorem tdiv_bd {d s B : Int} (hs : 0 < s) (h : -B ≤ d ∧ d ≤ B) : -B - 1 ≤ d.tdiv s ∧ d.tdiv s ≤ B + 1 ∧ -B ≤ d.tdiv s * s ∧ d.tdiv s * s ≤ B := by
  have hd : (d.tdiv s).natAbs ≤ d.natAbs := Int.natAbs_tdiv_le_natAbs d s
  have hm : (d.tdiv s * s).natAbs ≤ d.natAbs := by
    rw [Int.natAbs_mul, Int.natAbs_tdiv]
    exact Nat.div_mul_le_self _ _
  omega
noncomputable def offX (a b p : Pt) : Int := if lineE a b p = 0 then offE a b p else 0
noncomputable def alongX (a b p : Pt) : Int := if lineE a b p = 0 then alongE a b p else 0
theorem line_ok {a b p : Pt} (h : lineE a b p = 0) : ptOK a = true ∧ ptOK b = true ∧ ptOK p = true ∧ eqP a b = false := by
  unfold lineE at h
  (repeat' split at h) <;> first | (cases h; done) | skip
  rename_i h1 h2
  obtain ⟨x, y, z⟩ := ok3 ((Bool.eq_false_or_eq_true _).resolve_right h1)
  exact ⟨x, y, z, by simpa using h2⟩
theorem c_Offset (a b p : Pt) : Contract Tryz.prog 79 [.agg (encPt a), .agg (encPt b), .agg (encPt p)] (.ret (.tup [.int .i64 (offX a b p), .int .i64 (lineE a b p)])) := by
  have hl := c_lineErr a b p
  unfold offX
  by_cases hz : lineE a b p = 0
  · obtain ⟨ha, hb, hp, hne⟩ := line_ok hz
    have ho := c_offset a b p ha hb hp hne
    rw [if_pos hz]
    rw [hz] at hl ⊢
    refine contract_of mix Tryz.func79 rfl rfl (by rw [Tryz.ntmps79]; exact Nat.le_of_ble_eq_true rfl) ?_; rw [Tryz.results79, Tryz.ntmps79]; simp only [argsE, Nat.reduceAdd]
    repeat' first
           | (with_reducible apply go_op)
           | (with_reducible apply go_next)
           | ((with_reducible (show evOp _ _ _ _ _ _)); first
             | (((with_reducible apply go_mv_int); rfl; rfl))
             | ((with_reducible apply go_as))
             | (((with_reducible apply go_ld_agg); rfl; rfl; rfl; rfl))
             | (((with_reducible apply go_cmp); rfl; rfl; rfl; rfl))
             | ((with_reducible (show evOp _ (.call _) _ _ _ _)) ; first | ((with_reducible apply go_fn_int); rfl; (exact hl); rfl) | ((with_reducible apply go_fn_int); rfl; (exact ho); rfl))
             | (((with_reducible apply go_bx_agg); rfl; rfl; (exact Nat.le_of_ble_eq_true rfl); rfl; rfl)))
           | ((with_reducible (show evOps _ _ _ _ _ _)); first
             | (with_reducible apply go_nil))
           | ((with_reducible (show evG _ _ _ _ _)); first
             | (with_reducible apply go_seq)
             | (with_reducible apply go_region)
             | ((with_reducible apply go_cond_f); rfl; rfl)
             | (with_reducible apply go_ret)
             | (with_reducible apply go_skipc))
           | (with_reducible apply go_kseq)
           | ((with_reducible apply end_t2); rfl; rfl; rfl; rfl)
    all_goals first | rfl | (exfalso; omega)
  · rw [if_neg hz]
    refine contract_of mix Tryz.func79 rfl rfl (by rw [Tryz.ntmps79]; exact Nat.le_of_ble_eq_true rfl) ?_; rw [Tryz.results79, Tryz.ntmps79]; simp only [argsE, Nat.reduceAdd]
    repeat' first
           | (with_reducible apply go_op)
           | (with_reducible apply go_next)
           | ((with_reducible (show evOp _ _ _ _ _ _)); first
             | (((with_reducible apply go_mv_int); rfl; rfl))
             | ((with_reducible apply go_as))
             | (((with_reducible apply go_ld_agg); rfl; rfl; rfl; rfl))
             | (((with_reducible apply go_cmp); rfl; rfl; rfl; rfl))
             | (((with_reducible apply go_fn_int); rfl; (exact hl); rfl))
             | (((with_reducible apply go_bx_agg); rfl; rfl; (exact Nat.le_of_ble_eq_true rfl); rfl; rfl)))
           | ((with_reducible (show evOps _ _ _ _ _ _)); first
             | (with_reducible apply go_nil))
           | ((with_reducible (show evG _ _ _ _ _)); first
             | (with_reducible apply go_seq)
             | (with_reducible apply go_region)
             | (((with_reducible apply go_cond); rfl) <;> (intro h; simp only [h]; try simp only [decide_eq_true_eq, decide_eq_false_iff_not, Bool.not_eq_true', Bool.not_eq_false', Bool.not_true, Bool.not_false] at h; try exact absurd trivial h))
             | (with_reducible apply go_ret)
             | (with_reducible apply go_skipc))
           | (with_reducible apply go_kseq)
           | (with_reducible apply go_kseq_ret)
           | ((with_reducible apply end_t2); rfl; rfl; rfl; rfl)
    all_goals first | rfl | (exfalso; omega)
theorem c_Along (a b p : Pt) : Contract Tryz.prog 76 [.agg (encPt a), .agg (encPt b), .agg (encPt p)] (.ret (.tup [.int .i64 (alongX a b p), .int .i64 (lineE a b p)])) := by
  have hl := c_lineErr a b p
  unfold alongX
  by_cases hz : lineE a b p = 0
  · obtain ⟨ha, hb, hp, hne⟩ := line_ok hz
    have hx := c_dot a b p ha hb hp
    have hs := c_span a b ha hb
    have h1 := dotE_bd ha hb hp
    have h2 := span_pos (sq_pos hne) (sqE_bd ha hb).2
    have h3 := (span_is (sqE_bd ha hb).2).2
    have ht := tdiv_bd h2 h1
    have hlem := along_lem (d := dotE a b p) h2
    rw [if_pos hz]
    rw [hz] at hl ⊢
    unfold alongE
    refine contract_of mix Tryz.func76 rfl rfl (by rw [Tryz.ntmps76]; exact Nat.le_of_ble_eq_true rfl) ?_; rw [Tryz.results76, Tryz.ntmps76]; simp only [argsE, Nat.reduceAdd]
    repeat' first
           | (with_reducible apply go_op)
           | (with_reducible apply go_next)
           | ((with_reducible (show evOp _ _ _ _ _ _)); first
             | (((with_reducible apply go_mv_int); rfl; rfl))
             | ((with_reducible apply go_as))
             | (((with_reducible apply go_ld_agg); rfl; rfl; rfl; rfl))
             | ((with_reducible (show evOp _ (.binOp _ _ _ _ _) _ _ _ _)) ; first | ((with_reducible apply go_cmp); rfl; rfl; rfl; rfl) | ((with_reducible apply go_sub); rfl; rfl; rfl; omega) | ((with_reducible apply go_mul); rfl; rfl; rfl; omega) | ((with_reducible apply go_quo_any); rfl; rfl; rfl; omega; omega))
             | ((with_reducible (show evOp _ (.call _) _ _ _ _)) ; first | ((with_reducible apply go_fn_int); rfl; (exact hl); rfl) | ((with_reducible apply go_fn_int); rfl; (exact hx); rfl) | ((with_reducible apply go_fn_int); rfl; (exact hs); rfl))
             | (((with_reducible apply go_bx_agg); rfl; rfl; (exact Nat.le_of_ble_eq_true rfl); rfl; rfl)))
           | ((with_reducible (show evOps _ _ _ _ _ _)); first
             | (with_reducible apply go_nil)
             | ((with_reducible apply go_pre); rfl)
             | (with_reducible apply go_pre_nil)
             | ((with_reducible apply go_suf); rfl)
             | (with_reducible apply go_suf_nil))
           | ((with_reducible (show evG _ _ _ _ _)); first
             | (with_reducible apply go_seq)
             | (with_reducible apply go_region)
             | ((with_reducible apply go_cond_f); rfl; rfl)
             | (((with_reducible apply go_cond); rfl) <;> (intro h; simp only [h]; try simp only [decide_eq_true_eq, decide_eq_false_iff_not, Bool.not_eq_true', Bool.not_eq_false', Bool.not_true, Bool.not_false] at h; try exact absurd trivial h))
             | ((with_reducible apply go_order); kernel_rfl; rfl)
             | (with_reducible apply go_ret)
             | (with_reducible apply go_skipc))
           | (with_reducible apply go_kseq)
           | (with_reducible apply go_ksuf)
           | ((with_reducible apply end_t2); rfl; rfl; rfl; rfl)
    all_goals first
      | (exfalso; omega)
      | (rw [hlem.1 (by assumption)]; rfl)
      | (rw [← hlem.1 (by omega)]; rfl)
      | (rw [← hlem.2 (by assumption)]; rfl)
      | trace_state
  · rw [if_neg hz]
    refine contract_of mix Tryz.func76 rfl rfl (by rw [Tryz.ntmps76]; exact Nat.le_of_ble_eq_true rfl) ?_; rw [Tryz.results76, Tryz.ntmps76]; simp only [argsE, Nat.reduceAdd]
    repeat' first
           | (with_reducible apply go_op)
           | (with_reducible apply go_next)
           | ((with_reducible (show evOp _ _ _ _ _ _)); first
             | (((with_reducible apply go_mv_int); rfl; rfl))
             | ((with_reducible apply go_as))
             | (((with_reducible apply go_ld_agg); rfl; rfl; rfl; rfl))
             | (((with_reducible apply go_cmp); rfl; rfl; rfl; rfl))
             | (((with_reducible apply go_fn_int); rfl; (exact hl); rfl))
             | (((with_reducible apply go_bx_agg); rfl; rfl; (exact Nat.le_of_ble_eq_true rfl); rfl; rfl)))
           | ((with_reducible (show evOps _ _ _ _ _ _)); first
             | (with_reducible apply go_nil)
             | ((with_reducible apply go_pre); rfl))
           | ((with_reducible (show evG _ _ _ _ _)); first
             | (with_reducible apply go_seq)
             | (with_reducible apply go_region)
             | (((with_reducible apply go_cond); rfl) <;> (intro h; simp only [h]; try simp only [decide_eq_true_eq, decide_eq_false_iff_not, Bool.not_eq_true', Bool.not_eq_false', Bool.not_true, Bool.not_false] at h; try exact absurd trivial h))
             | ((with_reducible apply go_order); kernel_rfl; rfl)
             | (with_reducible apply go_ret)
             | (with_reducible apply go_skipc))
           | (with_reducible apply go_kseq)
           | (with_reducible apply go_kseq_ret)
           | ((with_reducible apply end_t2); rfl; rfl; rfl; rfl)
    all_goals first | rfl | (exfalso; omega)
def quarP (p : Pt) : Pt := ⟨0 - p.y, p.x⟩
theorem quar_ok {p : Pt} (h : ptOK p = true) : ptOK (quarP p) = true := by
  have := pt_bd h
  rw [ptOK, decide_eq_true_eq]
  show (-1000000 ≤ 0 - p.y ∧ 0 - p.y ≤ 1000000) ∧ (-1000000 ≤ p.x ∧ p.x ≤ 1000000)
  omega
end Go.Pv.Geo

open Go Go.Proofs Go.Pv
set_option maxHeartbeats 4000000
set_option maxRecDepth 100000
set_option linter.unusedSimpArgs false
set_option linter.unusedVariables false
namespace Go.Pv.Geo
theorem c_rSpan (a b : Pt) (ha : ptOK a = true) (hb : ptOK b = true) : Contract Tryz.prog 84 [.agg (encPt a), .agg (encPt b)] (.ret (.int .i64 (spanE (sqE a b)))) := by
  have hbd := sqE_bd ha hb
  have hd := c_rsquare a b ha hb
  generalize sqE a b = s at *
  refine contract_of mix Tryz.func84 rfl rfl (by rw [Tryz.ntmps84]; exact Nat.le_of_ble_eq_true rfl) ?_; rw [Tryz.results84, Tryz.ntmps84]; simp only [argsE, Nat.reduceAdd]
  repeat' first
           | (with_reducible apply go_op)
           | (with_reducible apply go_next)
           | ((with_reducible (show evOp _ _ _ _ _ _)); first
             | (((with_reducible apply go_mv_int); rfl; rfl))
             | ((with_reducible apply go_as))
             | (((with_reducible apply go_bx_agg); rfl; rfl; (exact Nat.le_of_ble_eq_true rfl); rfl; rfl)))
           | ((with_reducible (show evOps _ _ _ _ _ _)); first
             | (with_reducible apply go_nil))
           | ((with_reducible (show evG _ _ _ _ _)); first
             | (with_reducible apply go_seq)
             | (with_reducible apply go_region)
             | (with_reducible apply go_block))
           | (with_reducible apply go_kseq)
  refine go_while (fun x : Int × Int => (x.2 - x.1).toNat) (fun x => ⟨[(5, .int .i64 x.1), (6, .int .i64 x.2), (2, .op 0 0 0), (3, .op 1 0 0)], [(0, ⟨2, true, [encPt a]⟩), (1, ⟨2, true, [encPt b]⟩)], 32, 26⟩) (fun x => (0 ≤ x.1 ∧ x.1 ≤ x.2 ∧ x.2 ≤ 4000000) ∧ s ≤ x.2 * x.2 ∧ ∀ m, 0 ≤ m → m < x.1 → m * m < s) (0, 4000000)
    (entails_eq (nx := 32) (k := 0) (ns := []) (ks := [5, 6, 2, 3]) [(0, 0), (32, 1)] rfl (by simp) (by kernel_rfl)) ⟨⟨by omega, by omega, by omega⟩, by omega, fun m h1 h2 => by omega⟩ ?_
  rintro ⟨lo, hi⟩ ⟨⟨h1, h2, h3⟩, h4, h5⟩
  simp only at h1 h2 h3 h4 h5
  have hmid : 0 ≤ (lo + hi) / 2 ∧ (lo + hi) / 2 ≤ 4000000 := by omega
  have hmm := sq_mono hmid.1 hmid.2
  have hmm0 := Int.mul_nonneg hmid.1 hmid.1
  repeat' first
           | (with_reducible apply go_op)
           | (with_reducible apply go_next)
           | ((with_reducible (show evOp _ _ _ _ _ _)); first
             | (((with_reducible apply go_mv_int); rfl; rfl))
             | ((with_reducible apply go_as))
             | (((with_reducible apply go_ld_agg); rfl; rfl; rfl; rfl))
             | ((with_reducible (show evOp _ (.binOp _ _ _ _ _) _ _ _ _)) ; first | ((with_reducible apply go_cmp); rfl; rfl; rfl; rfl) | ((with_reducible apply go_add); rfl; rfl; rfl; omega) | ((with_reducible apply go_mul); rfl; rfl; rfl; omega) | ((with_reducible apply go_quo_pos); rfl; rfl; rfl; omega))
             | (((with_reducible apply go_fn_int); rfl; (exact hd); rfl)))
           | ((with_reducible (show evOps _ _ _ _ _ _)); first
             | (with_reducible apply go_nil))
           | ((with_reducible (show evG _ _ _ _ _)); first
             | (with_reducible apply go_seq)
             | (with_reducible apply go_region)
             | (((with_reducible apply go_cond); rfl) <;> (intro h; simp only [h]; try simp only [decide_eq_true_eq, decide_eq_false_iff_not, Bool.not_eq_true', Bool.not_eq_false', Bool.not_true, Bool.not_false] at h; try exact absurd trivial h))
             | (with_reducible apply go_ret)
             | (with_reducible apply go_skipc)
             | (with_reducible apply go_block)
             | (with_reducible apply go_exit))
           | (with_reducible apply go_kseq)
           | (with_reducible apply go_kblock)
           | (with_reducible apply go_kblock_exit)
           | (with_reducible apply go_kseq_exit)
           | ((with_reducible apply end_int); rfl)
  all_goals first
    | exact ⟨(lo, (lo + hi) / 2), by simp only; omega, ⟨⟨by simp only; omega, by simp only; omega, by simp only; omega⟩, by simp only; omega, h5⟩, entails_eq (nx := 32) (k := 0) (ns := []) (ks := [5, 6, 2, 3]) [(0, 0), (1, 1)] rfl (by simp) (by kernel_rfl)⟩
    | exact ⟨((lo + hi) / 2 + 1, hi), by simp only; omega, ⟨⟨by simp only; omega, by simp only; omega, by simp only; omega⟩, h4, fun m hm1 hm2 => by have := sq_mono hm1 (show m ≤ (lo + hi) / 2 by simp only at hm2; omega); omega⟩, entails_eq (nx := 32) (k := 0) (ns := []) (ks := [5, 6, 2, 3]) [(0, 0), (1, 1)] rfl (by simp) (by kernel_rfl)⟩
    | (have he : lo = hi := by omega
       subst he
       exact (spanE_eq ⟨h1, h4, h5⟩).symm)
    | (exfalso; omega)
    | trace_state
theorem c_rOffset (a b p : Pt) (ha : ptOK a = true) (hb : ptOK b = true) (hp : ptOK p = true) (hne : eqP a b = false) : Contract Tryz.prog 85 [.agg (encPt a), .agg (encPt b), .agg (encPt p)] (.ret (.int .i64 (offE a b p))) := by
  have hx := c_rcross a b p ha hb hp
  have hs := c_rSpan a b ha hb
  have h1 := crossE_bd ha hb hp
  have hab := c_abs (crossE a b p) (by omega) (by omega)
  have h2 := span_pos (sq_pos hne) (sqE_bd ha hb).2
  have h3 := (span_is (sqE_bd ha hb).2).2
  have h4 := absE_nn (crossE a b p)
  have h5 := absE_le h1
  unfold offE
  refine contract_of mix Tryz.func85 rfl rfl (by rw [Tryz.ntmps85]; exact Nat.le_of_ble_eq_true rfl) ?_; rw [Tryz.results85, Tryz.ntmps85]; simp only [argsE, Nat.reduceAdd]
  repeat' first
           | (with_reducible apply go_op)
           | (with_reducible apply go_next)
           | ((with_reducible (show evOp _ _ _ _ _ _)); first
             | (((with_reducible apply go_mv_int); rfl; rfl))
             | ((with_reducible apply go_as))
             | (((with_reducible apply go_ld_agg); rfl; rfl; rfl; rfl))
             | (((with_reducible apply go_quo_pos); rfl; rfl; rfl; omega))
             | ((with_reducible (show evOp _ (.call _) _ _ _ _)) ; first | ((with_reducible apply go_fn_int); rfl; (exact hx); rfl) | ((with_reducible apply go_fn_int); rfl; (exact hs); rfl) | ((with_reducible apply go_fn_int); rfl; (exact hab); rfl))
             | (((with_reducible apply go_bx_agg); rfl; rfl; (exact Nat.le_of_ble_eq_true rfl); rfl; rfl)))
           | ((with_reducible (show evOps _ _ _ _ _ _)); first
             | (with_reducible apply go_nil)
             | ((with_reducible apply go_pre); rfl)
             | (with_reducible apply go_pre_nil)
             | ((with_reducible apply go_suf); rfl)
             | (with_reducible apply go_suf_nil))
           | ((with_reducible (show evG _ _ _ _ _)); first
             | (with_reducible apply go_seq)
             | (with_reducible apply go_region)
             | ((with_reducible apply go_order); kernel_rfl; rfl)
             | (with_reducible apply go_ret))
           | (with_reducible apply go_kseq)
           | (with_reducible apply go_ksuf)
           | ((with_reducible apply end_int); rfl)
           | (with_reducible rfl)
  all_goals trace_state
theorem c_floor (n m : Int) (hm : 0 < m) (hm' : m ≤ 1000000000000) (hn : -1000000000000000 ≤ n ∧ n ≤ 1000000000000000) : Contract Tryz.prog 117 [.int .i64 n, .int .i64 m] (.ret (.int .i64 (n / m))) := by
  have hd := c_mod n m hm hm' hn
  have e1 := Int.emod_nonneg n (show m ≠ 0 by omega)
  have e2 := Int.emod_lt_of_pos n hm
  have e3 : n - n % m = m * (n / m) := by have := Int.mul_ediv_add_emod n m; omega
  refine contract_of mix Tryz.func117 rfl rfl (by rw [Tryz.ntmps117]; exact Nat.le_of_ble_eq_true rfl) ?_; rw [Tryz.results117, Tryz.ntmps117]; simp only [argsE, Nat.reduceAdd]
  repeat' first
           | (with_reducible apply go_op)
           | (with_reducible apply go_next)
           | ((with_reducible (show evOp _ _ _ _ _ _)); first
             | (((with_reducible apply go_mv_int); rfl; rfl))
             | ((with_reducible apply go_as))
             | ((with_reducible (show evOp _ (.binOp _ _ _ _ _) _ _ _ _)) ; first | ((with_reducible apply go_sub); rfl; rfl; rfl; omega) | ((with_reducible apply go_quo_any); rfl; rfl; rfl; omega; omega))
             | (((with_reducible apply go_fn_int); rfl; (exact hd); rfl)))
           | ((with_reducible (show evOps _ _ _ _ _ _)); first
             | (with_reducible apply go_nil))
           | ((with_reducible (show evG _ _ _ _ _)); first
             | (with_reducible apply go_seq)
             | (with_reducible apply go_region)
             | (with_reducible apply go_ret))
           | (with_reducible apply go_kseq)
           | ((with_reducible apply end_int); rfl)
  rw [e3, Int.mul_tdiv_cancel_left _ (by omega)]
theorem c_rAlong (a b p : Pt) (ha : ptOK a = true) (hb : ptOK b = true) (hp : ptOK p = true) (hne : eqP a b = false) : Contract Tryz.prog 83 [.agg (encPt a), .agg (encPt b), .agg (encPt p)] (.ret (.int .i64 (alongE a b p))) := by
  have hx := c_rdot a b p ha hb hp
  have hs := c_rSpan a b ha hb
  have h1 := dotE_bd ha hb hp
  have h2 := span_pos (sq_pos hne) (sqE_bd ha hb).2
  have h3 := (span_is (sqE_bd ha hb).2).2
  have hf := c_floor (dotE a b p) (spanE (sqE a b)) h2 (by omega) (by omega)
  refine contract_of mix Tryz.func83 rfl rfl (by rw [Tryz.ntmps83]; exact Nat.le_of_ble_eq_true rfl) ?_; rw [Tryz.results83, Tryz.ntmps83]; simp only [argsE, Nat.reduceAdd]
  repeat' first
           | (with_reducible apply go_op)
           | (with_reducible apply go_next)
           | ((with_reducible (show evOp _ _ _ _ _ _)); first
             | (((with_reducible apply go_mv_int); rfl; rfl))
             | ((with_reducible apply go_as))
             | (((with_reducible apply go_ld_agg); rfl; rfl; rfl; rfl))
             | ((with_reducible (show evOp _ (.call _) _ _ _ _)) ; first | ((with_reducible apply go_fn_int); rfl; (exact hx); rfl) | ((with_reducible apply go_fn_int); rfl; (exact hs); rfl) | ((with_reducible apply go_fn_int); rfl; (exact hf); rfl))
             | (((with_reducible apply go_bx_agg); rfl; rfl; (exact Nat.le_of_ble_eq_true rfl); rfl; rfl)))
           | ((with_reducible (show evOps _ _ _ _ _ _)); first
             | (with_reducible apply go_nil)
             | ((with_reducible apply go_pre); rfl)
             | (with_reducible apply go_pre_nil)
             | ((with_reducible apply go_suf); rfl)
             | (with_reducible apply go_suf_nil))
           | ((with_reducible (show evG _ _ _ _ _)); first
             | (with_reducible apply go_seq)
             | (with_reducible apply go_region)
             | ((with_reducible apply go_order); kernel_rfl; rfl)
             | (with_reducible apply go_ret))
           | (with_reducible apply go_kseq)
           | (with_reducible apply go_ksuf)
           | ((with_reducible apply end_int); rfl)
  all_goals rfl
end Go.Pv.Geo

open Go Go.Proofs Go.Pv
set_option maxHeartbeats 4000000
set_option maxRecDepth 100000
set_option linter.unusedSimpArgs false
set_option linter.unusedVariables false
namespace Go.Pv.Soil
theorem c_substance (t : Standard) : Contract Tryz.prog 53 [.agg (encStd t)] (.ret (.str t.sub)) := by
  refine contract_of mix Tryz.func53 rfl rfl (by rw [Tryz.ntmps53]; exact Nat.le_of_ble_eq_true rfl) ?_; rw [Tryz.results53, Tryz.ntmps53]; simp only [argsE, Nat.reduceAdd]
  repeat' first
           | (with_reducible apply go_op)
           | (with_reducible apply go_next)
           | ((with_reducible (show evOp _ _ _ _ _ _)); first
             | (((with_reducible apply go_mv_str); rfl; rfl))
             | ((with_reducible apply go_as))
             | (((with_reducible apply go_load_own); rfl; rfl; rfl; rfl))
             | (((with_reducible apply go_fieldAddr_own); rfl; rfl; rfl))
             | (((with_reducible apply go_bx_agg); rfl; rfl; (exact Nat.le_of_ble_eq_true rfl); rfl; rfl)))
           | ((with_reducible (show evOps _ _ _ _ _ _)); first
             | (with_reducible apply go_nil))
           | ((with_reducible (show evG _ _ _ _ _)); first
             | (with_reducible apply go_seq)
             | (with_reducible apply go_region)
             | (with_reducible apply go_ret))
           | (with_reducible apply go_kseq)
           | ((with_reducible apply end_str); rfl)
           | (with_reducible rfl)
def limStep (l : List Int) (i : Nat) : Int := match l[i]? with
  | none => 0
  | some n => if inV n = false then 2 else if 0 < i ∧ n ≤ l.getD (i - 1) 0 then 9 else 0
/-- The error of a standard's limits. -/
def limE (l : List Int) : Int := if l.length = 0 then 10 else if 5 < l.length then 8 else firstE l.length (limStep l)
theorem limStep_at {l : List Int} {i : Nat} (h : i < l.length) : limStep l i = if inV l[i] = false then 2 else if 0 < i ∧ l[i] ≤ l.getD (i - 1) 0 then 9 else 0 := by
  simp only [limStep, List.getElem?_eq_getElem h]
theorem lim_at {l : List Int} {i : Nat} {e : Int} (hi : i < l.length) (hC : ∀ j, j < i → limStep l j = 0) (h : limStep l i = e) (he : e ≠ 0) : e = firstE l.length (limStep l) := by
  subst h
  exact (firstE_at hi hC he).symm
theorem lim_step {l : List Int} {i : Nat} (hC : ∀ j, j < i → limStep l j = 0) (h : limStep l i = 0) : ∀ j, j < i + 1 → limStep l j = 0 := fun j hj => by
  rcases Nat.lt_succ_iff_lt_or_eq.1 hj with h' | rfl
  · exact hC j h'
  · exact h
theorem c_limitsErr (t : Standard) (hl : t.limits.length ≤ 9223372036854775807) : Contract Tryz.prog 54 [.agg (encStd t)] (.ret (.int .i64 (limE t.limits))) := by
  obtain ⟨sub, l⟩ := t
  simp only at hl ⊢
  by_cases h0 : l.length = 0
  · rw [show limE l = 10 from if_pos h0]
    refine contract_of mix Tryz.func54 rfl rfl (by rw [Tryz.ntmps54]; exact Nat.le_of_ble_eq_true rfl) ?_; rw [Tryz.results54, Tryz.ntmps54]; simp only [argsE, Nat.reduceAdd]
    repeat' first
           | (with_reducible apply go_op)
           | (with_reducible apply go_next)
           | ((with_reducible (show evOp _ _ _ _ _ _)); first
             | (((with_reducible apply go_mv_int); rfl; rfl))
             | ((with_reducible apply go_as))
             | (((with_reducible apply go_load_own); rfl; rfl; rfl; rfl))
             | (((with_reducible apply go_fieldAddr_own); rfl; rfl; rfl))
             | (((with_reducible apply go_cmp); rfl; rfl; rfl; rfl))
             | (((with_reducible apply go_len); rfl; rfl))
             | (((with_reducible apply go_bx_agg); rfl; rfl; (exact Nat.le_of_ble_eq_true rfl); rfl; rfl)))
           | ((with_reducible (show evOps _ _ _ _ _ _)); first
             | (with_reducible apply go_nil))
           | ((with_reducible (show evG _ _ _ _ _)); first
             | (with_reducible apply go_seq)
             | (with_reducible apply go_region)
             | (((with_reducible apply go_cond); rfl) <;> (intro h; simp only [h]; try simp only [decide_eq_true_eq, decide_eq_false_iff_not, Bool.not_eq_true', Bool.not_eq_false', Bool.not_true, Bool.not_false] at h; try exact absurd trivial h))
             | (with_reducible apply go_ret)
             | (with_reducible apply go_skipc)
             | (with_reducible apply go_block))
           | (with_reducible apply go_kseq)
           | (with_reducible apply go_kseq_ret)
           | ((with_reducible apply end_int); rfl)
           | (with_reducible rfl)
    all_goals (exfalso; omega)
  · by_cases h5 : 5 < l.length
    · rw [show limE l = 8 by unfold limE; rw [if_neg h0, if_pos h5]]
      refine contract_of mix Tryz.func54 rfl rfl (by rw [Tryz.ntmps54]; exact Nat.le_of_ble_eq_true rfl) ?_; rw [Tryz.results54, Tryz.ntmps54]; simp only [argsE, Nat.reduceAdd]
      repeat' first
           | (with_reducible apply go_op)
           | (with_reducible apply go_next)
           | ((with_reducible (show evOp _ _ _ _ _ _)); first
             | (((with_reducible apply go_mv_int); rfl; rfl))
             | ((with_reducible apply go_as))
             | (((with_reducible apply go_load_own); rfl; rfl; rfl; rfl))
             | (((with_reducible apply go_fieldAddr_own); rfl; rfl; rfl))
             | (((with_reducible apply go_cmp); rfl; rfl; rfl; rfl))
             | (((with_reducible apply go_len); rfl; rfl))
             | (((with_reducible apply go_bx_agg); rfl; rfl; (exact Nat.le_of_ble_eq_true rfl); rfl; rfl)))
           | ((with_reducible (show evOps _ _ _ _ _ _)); first
             | (with_reducible apply go_nil))
           | ((with_reducible (show evG _ _ _ _ _)); first
             | (with_reducible apply go_seq)
             | (with_reducible apply go_region)
             | (((with_reducible apply go_cond); rfl) <;> (intro h; simp only [h]; try simp only [decide_eq_true_eq, decide_eq_false_iff_not, Bool.not_eq_true', Bool.not_eq_false', Bool.not_true, Bool.not_false] at h; try exact absurd trivial h))
             | (with_reducible apply go_ret)
             | (with_reducible apply go_skipc)
             | (with_reducible apply go_block))
           | (with_reducible apply go_kseq)
           | (with_reducible apply go_kseq_ret)
           | ((with_reducible apply end_int); rfl)
           | (with_reducible rfl)
      all_goals (exfalso; omega)
    · rw [show limE l = firstE l.length (limStep l) by unfold limE; rw [if_neg h0, if_neg h5]]
      refine contract_of mix Tryz.func54 rfl rfl (by rw [Tryz.ntmps54]; exact Nat.le_of_ble_eq_true rfl) ?_; rw [Tryz.results54, Tryz.ntmps54]; simp only [argsE, Nat.reduceAdd]
      repeat' first
           | (with_reducible apply go_op)
           | (with_reducible apply go_next)
           | ((with_reducible (show evOp _ _ _ _ _ _)); first
             | (((with_reducible apply go_mv_int); rfl; rfl))
             | ((with_reducible apply go_as))
             | (((with_reducible apply go_load_own); rfl; rfl; rfl; rfl))
             | (((with_reducible apply go_fieldAddr_own); rfl; rfl; rfl))
             | (((with_reducible apply go_cmp); rfl; rfl; rfl; rfl))
             | (((with_reducible apply go_len); rfl; rfl))
             | (((with_reducible apply go_bx_agg); rfl; rfl; (exact Nat.le_of_ble_eq_true rfl); rfl; rfl)))
           | ((with_reducible (show evOps _ _ _ _ _ _)); first
             | (with_reducible apply go_nil))
           | ((with_reducible (show evG _ _ _ _ _)); first
             | (with_reducible apply go_seq)
             | (with_reducible apply go_region)
             | (((with_reducible apply go_cond); rfl) <;> (intro h; simp only [h]; try simp only [decide_eq_true_eq, decide_eq_false_iff_not, Bool.not_eq_true', Bool.not_eq_false', Bool.not_true, Bool.not_false] at h; try exact absurd trivial h))
             | (with_reducible apply go_ret)
             | (with_reducible apply go_skipc)
             | (with_reducible apply go_block))
           | (with_reducible apply go_kseq)
           | (with_reducible apply go_kseq_ret)
           | ((with_reducible apply end_int); rfl)
      all_goals try (exfalso; omega)
      refine go_count l.length (fun i => ⟨[(16, .int .i64 i), (15, .int .i64 l.length), (14, .sl (l.map encInt)), (1, .op 0 0 0)], [(0, ⟨2, true, [[.str sub, .sl (l.map encInt)]]⟩)], 32, 37⟩) (fun i => ∀ j, j < i → limStep l j = 0) (entails_eq (nx := 32) (k := 0) (ns := []) (ks := [16, 15, 14, 1]) [(0, 0)] rfl (by simp) (by kernel_rfl)) (fun j hj => absurd hj (by omega)) ?_
      intro i hi hC
      by_cases hlt : i < l.length
      · have hs := limStep_at hlt
        have hgd : 0 < i → ∀ h : ((i : Int) - 1).toNat < l.length, l.getD (i - 1) 0 = l[((i : Int) - 1).toNat]'h := fun hp h => by
          have e : ((i : Int) - 1).toNat = i - 1 := by omega
          rw [List.getD_eq_getElem?_getD, ← e, List.getElem?_eq_getElem h]; rfl
        repeat' first
           | (with_reducible apply go_op)
           | (with_reducible apply go_next)
           | ((with_reducible (show evOp _ _ _ _ _ _)); first
             | ((with_reducible (show evOp _ (.move _) _ _ _ _)) ; first | ((with_reducible apply go_mv_int); rfl; rfl) | ((with_reducible apply go_mv_bool); rfl; rfl))
             | ((with_reducible apply go_as))
             | ((with_reducible (show evOp _ (.load _ _) _ _ _ _)) ; first | ((with_reducible apply go_load); rfl; rfl; rfl) | ((with_reducible apply go_load_own); rfl; rfl; rfl; rfl))
             | (((with_reducible apply go_fieldAddr_own); rfl; rfl; rfl))
             | ((with_reducible (show evOp _ (.indexAddr _ _ _) _ _ _ _)) ; first | ((with_reducible apply go_index_nat); rfl; rfl; (with_reducible rfl); (intro; rfl); rfl; omega; (intro hlt)) | ((with_reducible apply go_index); rfl; rfl; (intro; rfl); rfl; omega; intro hlt))
             | ((with_reducible (show evOp _ (.binOp _ _ _ _ _) _ _ _ _)) ; first | ((with_reducible apply go_cmp); rfl; rfl; rfl; rfl) | ((with_reducible apply go_add); rfl; rfl; rfl; omega) | ((with_reducible apply go_sub); rfl; rfl; rfl; omega))
             | (((with_reducible apply go_fn_bool); rfl; (exact c108 _ _ _); rfl))
             | (((with_reducible apply go_not); rfl; rfl))
             | (((with_reducible apply go_pick); rfl; rfl; rfl)))
           | ((with_reducible (show evOps _ _ _ _ _ _)); first
             | (with_reducible apply go_nil)
             | ((with_reducible apply go_run); rfl; rfl)
             | ((with_reducible apply go_pass); rfl; rfl; rfl)
             | (((with_reducible apply go_guard); rfl) <;> (intro h; simp only [h, Bool.not_true, Bool.not_false]; (try with_reducible (refine ⟨rfl, ?_⟩)); try simp only [decide_eq_true_eq, decide_eq_false_iff_not, Bool.not_eq_true', Bool.not_eq_false', Bool.not_true, Bool.not_false] at h; try exact absurd trivial h)))
           | ((with_reducible (show evG _ _ _ _ _)); first
             | (with_reducible apply go_seq)
             | (with_reducible apply go_region)
             | ((with_reducible apply go_cond_f); rfl; rfl)
             | (((with_reducible apply go_cond); rfl) <;> (intro h; simp only [h]; try simp only [decide_eq_true_eq, decide_eq_false_iff_not, Bool.not_eq_true', Bool.not_eq_false', Bool.not_true, Bool.not_false] at h; try exact absurd trivial h))
             | (with_reducible apply go_ret)
             | (with_reducible apply go_skipc)
             | (with_reducible apply go_block)
             | (with_reducible apply go_exit))
           | (with_reducible apply go_kseq)
           | (with_reducible apply go_kseq_ret)
           | (with_reducible apply go_kblock)
           | (with_reducible apply go_kblock_ret)
           | (with_reducible apply go_kblock_exit)
           | (with_reducible apply go_kseq_exit)
           | ((with_reducible apply end_int); rfl)
        all_goals try exact absurd hlt (by omega)
        all_goals first
          | exact lim_at (i := i) (by omega) hC (by rw [hs, if_pos (by simp [inV]; omega)]) (by decide)
          | (refine lim_at (i := i) (by omega) hC ?_ (by decide)
             rw [hs, if_neg (by simp [inV]; omega), if_pos (show 0 < i ∧ l[i] ≤ l.getD (i - 1) 0 from ⟨by omega, by rw [hgd (by omega) (by omega)]; assumption⟩)])
          | (refine ⟨by omega, lim_step hC ?_, entails_eq (nx := 32) (k := 0) (ns := []) (ks := [16, 15, 14, 1]) [(0, 0)] rfl (by simp) (by kernel_rfl)⟩
             rw [hs, if_neg (by simp [inV]; omega), if_neg ?_]
             rintro ⟨h1, h2⟩
             first
               | omega
               | (rw [hgd (by omega) (by omega)] at h2
                  exact absurd h2 (by assumption)))
          | trace_state
      · repeat' first
           | (with_reducible apply go_op)
           | (with_reducible apply go_next)
           | ((with_reducible (show evOp _ _ _ _ _ _)); first
             | (((with_reducible apply go_mv_int); rfl; rfl))
             | ((with_reducible apply go_as))
             | (((with_reducible apply go_load); rfl; rfl; rfl))
             | (((with_reducible apply go_index_nat); rfl; rfl; (with_reducible rfl); (intro; rfl); rfl; omega; (intro hlt)))
             | (((with_reducible apply go_cmp); rfl; rfl; rfl; rfl)))
           | ((with_reducible (show evOps _ _ _ _ _ _)); first
             | (with_reducible apply go_nil))
           | ((with_reducible (show evG _ _ _ _ _)); first
             | (with_reducible apply go_seq)
             | (with_reducible apply go_region)
             | (((with_reducible apply go_cond); rfl) <;> (intro h; simp only [h]; try simp only [decide_eq_true_eq, decide_eq_false_iff_not, Bool.not_eq_true', Bool.not_eq_false', Bool.not_true, Bool.not_false] at h; try exact absurd trivial h))
             | (with_reducible apply go_ret)
             | (with_reducible apply go_skipc)
             | (with_reducible apply go_block)
             | (with_reducible apply go_exit))
           | (with_reducible apply go_kseq)
           | (with_reducible apply go_kblock_exit)
           | (with_reducible apply go_kseq_exit)
           | ((with_reducible apply end_int); rfl)
        all_goals first
          | exact absurd hlt (by omega)
          | exact (firstE_zero fun j hj => hC j (by omega)).symm
          | trace_state
theorem c_checkLimits (t : Standard) (hl : t.limits.length ≤ 9223372036854775807) : Contract Tryz.prog 65 [.agg (encStd t)] (.ret (.int .i64 (limE t.limits))) := by
  obtain ⟨sub, l⟩ := t
  simp only at hl ⊢
  by_cases h0 : l.length = 0
  · rw [show limE l = 10 from if_pos h0]
    refine contract_of mix Tryz.func65 rfl rfl (by rw [Tryz.ntmps65]; exact Nat.le_of_ble_eq_true rfl) ?_; rw [Tryz.results65, Tryz.ntmps65]; simp only [argsE, Nat.reduceAdd]
    repeat' first
           | (with_reducible apply go_op)
           | (with_reducible apply go_next)
           | ((with_reducible (show evOp _ _ _ _ _ _)); first
             | (((with_reducible apply go_mv_int); rfl; rfl))
             | ((with_reducible apply go_as))
             | (((with_reducible apply go_load_own); rfl; rfl; rfl; rfl))
             | (((with_reducible apply go_fieldAddr_own); rfl; rfl; rfl))
             | (((with_reducible apply go_cmp); rfl; rfl; rfl; rfl))
             | (((with_reducible apply go_len); rfl; rfl))
             | (((with_reducible apply go_bx_agg); rfl; rfl; (exact Nat.le_of_ble_eq_true rfl); rfl; rfl)))
           | ((with_reducible (show evOps _ _ _ _ _ _)); first
             | (with_reducible apply go_nil))
           | ((with_reducible (show evG _ _ _ _ _)); first
             | (with_reducible apply go_seq)
             | (with_reducible apply go_region)
             | (((with_reducible apply go_cond); rfl) <;> (intro h; simp only [h]; try simp only [decide_eq_true_eq, decide_eq_false_iff_not, Bool.not_eq_true', Bool.not_eq_false', Bool.not_true, Bool.not_false] at h; try exact absurd trivial h))
             | (with_reducible apply go_ret)
             | (with_reducible apply go_skipc)
             | (with_reducible apply go_block))
           | (with_reducible apply go_kseq)
           | (with_reducible apply go_kseq_ret)
           | ((with_reducible apply end_int); rfl)
           | (with_reducible rfl)
    all_goals (exfalso; omega)
  · by_cases h5 : 5 < l.length
    · rw [show limE l = 8 by unfold limE; rw [if_neg h0, if_pos h5]]
      refine contract_of mix Tryz.func65 rfl rfl (by rw [Tryz.ntmps65]; exact Nat.le_of_ble_eq_true rfl) ?_; rw [Tryz.results65, Tryz.ntmps65]; simp only [argsE, Nat.reduceAdd]
      repeat' first
           | (with_reducible apply go_op)
           | (with_reducible apply go_next)
           | ((with_reducible (show evOp _ _ _ _ _ _)); first
             | (((with_reducible apply go_mv_int); rfl; rfl))
             | ((with_reducible apply go_as))
             | (((with_reducible apply go_load_own); rfl; rfl; rfl; rfl))
             | (((with_reducible apply go_fieldAddr_own); rfl; rfl; rfl))
             | (((with_reducible apply go_cmp); rfl; rfl; rfl; rfl))
             | (((with_reducible apply go_len); rfl; rfl))
             | (((with_reducible apply go_bx_agg); rfl; rfl; (exact Nat.le_of_ble_eq_true rfl); rfl; rfl)))
           | ((with_reducible (show evOps _ _ _ _ _ _)); first
             | (with_reducible apply go_nil))
           | ((with_reducible (show evG _ _ _ _ _)); first
             | (with_reducible apply go_seq)
             | (with_reducible apply go_region)
             | (((with_reducible apply go_cond); rfl) <;> (intro h; simp only [h]; try simp only [decide_eq_true_eq, decide_eq_false_iff_not, Bool.not_eq_true', Bool.not_eq_false', Bool.not_true, Bool.not_false] at h; try exact absurd trivial h))
             | (with_reducible apply go_ret)
             | (with_reducible apply go_skipc)
             | (with_reducible apply go_block))
           | (with_reducible apply go_kseq)
           | (with_reducible apply go_kseq_ret)
           | ((with_reducible apply end_int); rfl)
           | (with_reducible rfl)
      all_goals (exfalso; omega)
    · rw [show limE l = firstE l.length (limStep l) by unfold limE; rw [if_neg h0, if_neg h5]]
      refine contract_of mix Tryz.func65 rfl rfl (by rw [Tryz.ntmps65]; exact Nat.le_of_ble_eq_true rfl) ?_; rw [Tryz.results65, Tryz.ntmps65]; simp only [argsE, Nat.reduceAdd]
      repeat' first
           | (with_reducible apply go_op)
           | (with_reducible apply go_next)
           | ((with_reducible (show evOp _ _ _ _ _ _)); first
             | (((with_reducible apply go_mv_int); rfl; rfl))
             | ((with_reducible apply go_as))
             | (((with_reducible apply go_load_own); rfl; rfl; rfl; rfl))
             | (((with_reducible apply go_fieldAddr_own); rfl; rfl; rfl))
             | (((with_reducible apply go_cmp); rfl; rfl; rfl; rfl))
             | (((with_reducible apply go_len); rfl; rfl))
             | (((with_reducible apply go_bx_agg); rfl; rfl; (exact Nat.le_of_ble_eq_true rfl); rfl; rfl)))
           | ((with_reducible (show evOps _ _ _ _ _ _)); first
             | (with_reducible apply go_nil))
           | ((with_reducible (show evG _ _ _ _ _)); first
             | (with_reducible apply go_seq)
             | (with_reducible apply go_region)
             | (((with_reducible apply go_cond); rfl) <;> (intro h; simp only [h]; try simp only [decide_eq_true_eq, decide_eq_false_iff_not, Bool.not_eq_true', Bool.not_eq_false', Bool.not_true, Bool.not_false] at h; try exact absurd trivial h))
             | (with_reducible apply go_ret)
             | (with_reducible apply go_skipc)
             | (with_reducible apply go_block))
           | (with_reducible apply go_kseq)
           | (with_reducible apply go_kseq_ret)
           | ((with_reducible apply end_int); rfl)
      all_goals try (exfalso; omega)
      refine go_count l.length (fun i => ⟨[(3, .int .i64 i), (1, .op 0 0 0)], [(0, ⟨2, true, [[.str sub, .sl (l.map encInt)]]⟩)], 32, 42⟩) (fun i => ∀ j, j < i → limStep l j = 0) (entails_eq (nx := 32) (k := 0) (ns := []) (ks := [3, 1]) [(0, 0)] rfl (by simp) (by kernel_rfl)) (fun j hj => absurd hj (by omega)) ?_
      intro i hi hC
      by_cases hlt : i < l.length
      · have hs := limStep_at hlt
        have hgd : 0 < i → ∀ h : ((i : Int) - 1).toNat < l.length, l.getD (i - 1) 0 = l[((i : Int) - 1).toNat]'h := fun hp h => by
          have e : ((i : Int) - 1).toNat = i - 1 := by omega
          rw [List.getD_eq_getElem?_getD, ← e, List.getElem?_eq_getElem h]; rfl
        repeat' first
           | (with_reducible apply go_op)
           | (with_reducible apply go_next)
           | ((with_reducible (show evOp _ _ _ _ _ _)); first
             | ((with_reducible (show evOp _ (.move _) _ _ _ _)) ; first | ((with_reducible apply go_mv_int); rfl; rfl) | ((with_reducible apply go_mv_bool); rfl; rfl))
             | ((with_reducible apply go_as))
             | ((with_reducible (show evOp _ (.load _ _) _ _ _ _)) ; first | ((with_reducible apply go_load); rfl; rfl; rfl) | ((with_reducible apply go_load_own); rfl; rfl; rfl; rfl))
             | (((with_reducible apply go_fieldAddr_own); rfl; rfl; rfl))
             | ((with_reducible (show evOp _ (.indexAddr _ _ _) _ _ _ _)) ; first | ((with_reducible apply go_index_nat); rfl; rfl; (with_reducible rfl); (intro; rfl); rfl; omega; (intro hlt)) | ((with_reducible apply go_index); rfl; rfl; (intro; rfl); rfl; omega; intro hlt))
             | ((with_reducible (show evOp _ (.binOp _ _ _ _ _) _ _ _ _)) ; first | ((with_reducible apply go_cmp); rfl; rfl; rfl; rfl) | ((with_reducible apply go_add); rfl; rfl; rfl; omega) | ((with_reducible apply go_sub); rfl; rfl; rfl; omega))
             | ((with_reducible (show evOp _ (.call _) _ _ _ _)) ; first | ((with_reducible apply go_len); rfl; rfl) | ((with_reducible apply go_fn_bool); rfl; (exact c38 _ _ _); rfl))
             | (((with_reducible apply go_not); rfl; rfl))
             | (((with_reducible apply go_pick); rfl; rfl; rfl)))
           | ((with_reducible (show evOps _ _ _ _ _ _)); first
             | (with_reducible apply go_nil)
             | ((with_reducible apply go_run); rfl; rfl)
             | ((with_reducible apply go_pass); rfl; rfl; rfl)
             | (((with_reducible apply go_guard); rfl) <;> (intro h; simp only [h, Bool.not_true, Bool.not_false]; (try with_reducible (refine ⟨rfl, ?_⟩)); try simp only [decide_eq_true_eq, decide_eq_false_iff_not, Bool.not_eq_true', Bool.not_eq_false', Bool.not_true, Bool.not_false] at h; try exact absurd trivial h))
             | ((with_reducible apply go_pre); rfl)
             | (with_reducible apply go_pre_nil)
             | ((with_reducible apply go_suf); rfl)
             | (with_reducible apply go_suf_nil))
           | ((with_reducible (show evG _ _ _ _ _)); first
             | (with_reducible apply go_seq)
             | (with_reducible apply go_region)
             | ((with_reducible apply go_cond_f); rfl; rfl)
             | (((with_reducible apply go_cond); rfl) <;> (intro h; simp only [h]; try simp only [decide_eq_true_eq, decide_eq_false_iff_not, Bool.not_eq_true', Bool.not_eq_false', Bool.not_true, Bool.not_false] at h; try exact absurd trivial h))
             | ((with_reducible apply go_order); kernel_rfl; rfl)
             | (with_reducible apply go_ret)
             | (with_reducible apply go_skipc)
             | (with_reducible apply go_block)
             | (with_reducible apply go_exit))
           | (with_reducible apply go_kseq)
           | (with_reducible apply go_ksuf)
           | (with_reducible apply go_kseq_ret)
           | (with_reducible apply go_kblock)
           | (with_reducible apply go_kblock_ret)
           | (with_reducible apply go_kblock_exit)
           | (with_reducible apply go_kseq_exit)
           | ((with_reducible apply end_int); rfl)
        all_goals try exact absurd hlt (by omega)
        all_goals first
          | exact lim_at (i := i) (by omega) hC (by rw [hs, if_pos (by simp [inV]; omega)]) (by decide)
          | (refine lim_at (i := i) (by omega) hC ?_ (by decide)
             rw [hs, if_neg (by simp [inV]; omega), if_pos (show 0 < i ∧ l[i] ≤ l.getD (i - 1) 0 from ⟨by omega, by rw [hgd (by omega) (by omega)]; assumption⟩)])
          | (refine ⟨by omega, lim_step hC ?_, entails_eq (nx := 32) (k := 0) (ns := []) (ks := [3, 1]) [(0, 0)] rfl (by simp) (by kernel_rfl)⟩
             rw [hs, if_neg (by simp [inV]; omega), if_neg ?_]
             rintro ⟨h1, h2⟩
             first
               | omega
               | (rw [hgd (by omega) (by omega)] at h2
                  exact absurd h2 (by assumption)))
          | trace_state
      · repeat' first
           | (with_reducible apply go_op)
           | (with_reducible apply go_next)
           | ((with_reducible (show evOp _ _ _ _ _ _)); first
             | (((with_reducible apply go_mv_int); rfl; rfl))
             | ((with_reducible apply go_as))
             | ((with_reducible (show evOp _ (.load _ _) _ _ _ _)) ; first | ((with_reducible apply go_load); rfl; rfl; rfl) | ((with_reducible apply go_load_own); rfl; rfl; rfl; rfl))
             | (((with_reducible apply go_fieldAddr_own); rfl; rfl; rfl))
             | (((with_reducible apply go_index_nat); rfl; rfl; (with_reducible rfl); (intro; rfl); rfl; omega; (intro hlt)))
             | (((with_reducible apply go_cmp); rfl; rfl; rfl; rfl))
             | (((with_reducible apply go_len); rfl; rfl)))
           | ((with_reducible (show evOps _ _ _ _ _ _)); first
             | (with_reducible apply go_nil))
           | ((with_reducible (show evG _ _ _ _ _)); first
             | (with_reducible apply go_seq)
             | (with_reducible apply go_region)
             | (((with_reducible apply go_cond); rfl) <;> (intro h; simp only [h]; try simp only [decide_eq_true_eq, decide_eq_false_iff_not, Bool.not_eq_true', Bool.not_eq_false', Bool.not_true, Bool.not_false] at h; try exact absurd trivial h))
             | (with_reducible apply go_ret)
             | (with_reducible apply go_skipc)
             | (with_reducible apply go_block)
             | (with_reducible apply go_exit))
           | (with_reducible apply go_kseq)
           | (with_reducible apply go_kblock_exit)
           | (with_reducible apply go_kseq_exit)
           | ((with_reducible apply end_int); rfl)
        all_goals first
          | exact absurd hlt (by omega)
          | exact (firstE_zero fun j hj => hC j (by omega)).symm
          | trace_state
end Go.Pv.Soil

open Go Go.Proofs Go.Pv
set_option maxHeartbeats 4000000
set_option maxRecDepth 100000
set_option linter.unusedSimpArgs false
set_option linter.unusedVariables false
namespace Go.Pv.Soil
theorem c151T (x : Soil) (s : ByteArray) : Contract Tryz.prog 172 [.agg (encSoil x), .ptr [.str s]] (.ret (.bool (decide (x.name = s)))) := by
  refine contract_of mix Tryz.func172 rfl rfl (by rw [Tryz.ntmps172]; exact Nat.le_of_ble_eq_true rfl) ?_; rw [Tryz.results172, Tryz.ntmps172]; simp only [argsE, Nat.reduceAdd]
  repeat' first
           | (with_reducible apply go_op)
           | (with_reducible apply go_next)
           | ((with_reducible (show evOp _ _ _ _ _ _)); first
             | (((with_reducible apply go_mv_bool); rfl; rfl))
             | ((with_reducible apply go_as))
             | ((with_reducible (show evOp _ (.load _ _) _ _ _ _)) ; first | ((with_reducible apply go_load); rfl; rfl; rfl) | ((with_reducible apply go_load_own); rfl; rfl; rfl; rfl))
             | (((with_reducible apply go_fieldAddr_own); rfl; rfl; rfl))
             | (((with_reducible apply go_bin); rfl; rfl))
             | (((with_reducible apply go_bx_agg); rfl; rfl; (exact Nat.le_of_ble_eq_true rfl); rfl; rfl)))
           | ((with_reducible (show evOps _ _ _ _ _ _)); first
             | (with_reducible apply go_nil))
           | ((with_reducible (show evG _ _ _ _ _)); first
             | (with_reducible apply go_seq)
             | (with_reducible apply go_region)
             | (with_reducible apply go_ret))
           | (with_reducible apply go_kseq)
           | ((with_reducible apply end_bool); rfl)
           | (with_reducible rfl)
theorem c177T (l : List Standard) (hl : l.length < 1000000000000) (g : FuncId) (ys : List D) (hst : Stab ys) (hpu : pureL ys = true) (p : Standard → Bool) (hf : ∀ x ∈ l, Contract Tryz.prog g (.agg (encStd x) :: ys) (.ret (.bool (p x)))) :
    Contract Tryz.prog 121 [.sl (l.map encStd), .clo (.func g) [] ys] (.ret (.int .i64 (idxOf p l))) := by
  refine contract_of mix Tryz.func121 rfl rfl (by rw [Tryz.ntmps121]; exact Nat.le_of_ble_eq_true rfl) ?_; rw [Tryz.results121, Tryz.ntmps121]; simp only [argsE, Nat.reduceAdd]
  repeat' first
           | (with_reducible apply go_op)
           | (with_reducible apply go_next)
           | ((with_reducible (show evOp _ _ _ _ _ _)); first
             | ((with_reducible (show evOp _ (.move _) _ _ _ _)) ; first | ((with_reducible apply go_mv_int); rfl; rfl) | ((with_reducible apply go_mv_sl); rfl; rfl))
             | ((with_reducible apply go_as))
             | (((with_reducible apply go_len); rfl; rfl)))
           | ((with_reducible (show evOps _ _ _ _ _ _)); first
             | (with_reducible apply go_nil))
           | ((with_reducible (show evG _ _ _ _ _)); first
             | (with_reducible apply go_seq)
             | (with_reducible apply go_region)
             | (with_reducible apply go_block))
           | (with_reducible apply go_kseq)
  have e8 : ∀ i : Nat, (⟨[(8, .int .i64 i), (7, .int .i64 l.length), (0, .sl (l.map encStd)), (1, .clo (.func g) [] (renL [] ys))], [], 0, 19⟩ : St) = ⟨[(8, .int .i64 i), (7, .int .i64 l.length), (0, .sl (l.map encStd)), (1, .clo (.func g) [] ys)], [], 0, 19⟩ := fun i => by rw [renL_pure hpu]
  refine go_count l.length (fun i => ⟨[(8, .int .i64 i), (7, .int .i64 l.length), (0, .sl (l.map encStd)), (1, .clo (.func g) [] ys)], [], 0, 19⟩) (fun i => ∀ j (hj : j < i) (hj' : j < l.length), p l[j] = false) (entails_eq (k := 0) (ns := []) (ks := [8, 7, 0, 1]) [] rfl (by simp) (e8 _)) (by omega) ?_
  intro i hi hC
  repeat' first
           | (with_reducible apply go_op)
           | (with_reducible apply go_next)
           | ((with_reducible (show evOp _ _ _ _ _ _)); first
             | ((with_reducible (show evOp _ (.move _) _ _ _ _)) ; first | ((with_reducible apply go_mv_int); rfl; rfl) | ((with_reducible apply go_mv_sl); rfl; rfl) | ((with_reducible apply go_mv_clo); rfl; rfl))
             | ((with_reducible apply go_as))
             | (((with_reducible apply go_ld_ptr); rfl; rfl; rfl))
             | (((with_reducible apply go_index_nat); rfl; rfl; (with_reducible rfl); (intro; rfl); rfl; omega; (intro hlt)))
             | (((with_reducible apply go_cmp); rfl; rfl; rfl; rfl)))
           | ((with_reducible (show evOps _ _ _ _ _ _)); first
             | (with_reducible apply go_nil))
           | ((with_reducible (show evG _ _ _ _ _)); first
             | (with_reducible apply go_seq)
             | (with_reducible apply go_region)
             | (((with_reducible apply go_cond); rfl) <;> (intro h; simp only [h]; try simp only [decide_eq_true_eq, decide_eq_false_iff_not, Bool.not_eq_true', Bool.not_eq_false', Bool.not_true, Bool.not_false] at h; try exact absurd trivial h))
             | (with_reducible apply go_ret)
             | (with_reducible apply go_skipc)
             | (with_reducible apply go_block)
             | (with_reducible apply go_exit))
           | (with_reducible apply go_kseq)
           | (with_reducible apply go_kblock_exit)
           | (with_reducible apply go_kseq_exit)
           | ((with_reducible apply end_int); rfl)
  · refine go_clo_bool rfl rfl hst (hf l[i] (List.getElem_mem _)) rfl ?_
    repeat' first
           | (with_reducible apply go_op)
           | (with_reducible apply go_next)
           | ((with_reducible (show evOp _ _ _ _ _ _)); first
             | (((with_reducible apply go_mv_int); rfl; rfl))
             | ((with_reducible apply go_as))
             | (((with_reducible apply go_add); rfl; rfl; rfl; omega)))
           | ((with_reducible (show evOps _ _ _ _ _ _)); first
             | (with_reducible apply go_nil))
           | ((with_reducible (show evG _ _ _ _ _)); first
             | (with_reducible apply go_seq)
             | (with_reducible apply go_region)
             | (((with_reducible apply go_cond); rfl) <;> (intro h; simp only [h]; try simp only [decide_eq_true_eq, decide_eq_false_iff_not, Bool.not_eq_true', Bool.not_eq_false', Bool.not_true, Bool.not_false] at h; try exact absurd trivial h))
             | (with_reducible apply go_ret)
             | (with_reducible apply go_skipc))
           | (with_reducible apply go_kseq)
           | (with_reducible apply go_kseq_ret)
           | (with_reducible apply go_kblock)
           | (with_reducible apply go_kblock_ret)
           | ((with_reducible apply end_int); rfl)
    · have h2 : i < l.length := by omega
      exact (idxOf_some h2 h fun j hj => hC j hj (by omega)).symm
    · have h2 : i < l.length := by omega
      refine ⟨by omega, fun j hj hj' => ?_, entails_eq (k := 0) (ns := []) (ks := [8, 7, 0, 1]) [] rfl (by simp) (e8 _)⟩
      rcases Nat.lt_succ_iff_lt_or_eq.1 hj with h' | rfl
      · exact hC j h' hj'
      · exact h
  · refine (idxOf_none fun x hx => ?_).symm
    obtain ⟨j, hj, rfl⟩ := List.mem_iff_getElem.1 hx
    exact hC j (by omega) hj
theorem c140T (l : List Standard) (hl : l.length < 1000000000000) (g : FuncId) (ys : List D) (hst : Stab ys) (hpu : pureL ys = true) (p : Standard → Bool) (hf : ∀ x ∈ l, Contract Tryz.prog g (.agg (encStd x) :: ys) (.ret (.bool (p x)))) :
    Contract Tryz.prog 87 [.sl (l.map encStd), .clo (.func g) [] ys] (.ret (.bool (l.any p))) := by
  refine contract_of mix Tryz.func87 rfl rfl (by rw [Tryz.ntmps87]; exact Nat.le_of_ble_eq_true rfl) ?_; rw [Tryz.results87, Tryz.ntmps87]; simp only [argsE, Nat.reduceAdd]
  repeat' first
           | (with_reducible apply go_op)
           | (with_reducible apply go_next)
           | ((with_reducible (show evOp _ _ _ _ _ _)); first
             | ((with_reducible (show evOp _ (.move _) _ _ _ _)) ; first | ((with_reducible apply go_mv_bool); rfl; rfl) | ((with_reducible apply go_mv_sl); rfl; rfl) | ((with_reducible apply go_mv_clo); rfl; rfl))
             | ((with_reducible apply go_as)))
           | ((with_reducible (show evOps _ _ _ _ _ _)); first
             | (with_reducible apply go_nil))
           | ((with_reducible (show evG _ _ _ _ _)); first
             | (with_reducible apply go_seq)
             | (with_reducible apply go_region))
           | (with_reducible apply go_kseq)
  refine go_fn_int (args' := [.sl (l.map encStd), .clo (.func g) [] ys]) ?_ (c177T l hl g ys hst hpu p hf) rfl ?_
  · have e := hst (lkH []) 45
    simp only [List.map_cons, List.map_nil, evalD, lkE, purL, pur, Option.bind_some, Option.map_some, Nat.reduceEqDiff, if_true, if_false, e]
  repeat' first
           | (with_reducible apply go_op)
           | (with_reducible apply go_next)
           | ((with_reducible (show evOp _ _ _ _ _ _)); first
             | (((with_reducible apply go_mv_bool); rfl; rfl))
             | ((with_reducible apply go_as))
             | (((with_reducible apply go_cmp); rfl; rfl; rfl; rfl)))
           | ((with_reducible (show evOps _ _ _ _ _ _)); first
             | (with_reducible apply go_nil))
           | ((with_reducible (show evG _ _ _ _ _)); first
             | (with_reducible apply go_ret))
           | (with_reducible apply go_kseq)
           | ((with_reducible apply end_bool); rfl)
  exact idxOf_ge
theorem c141T (x : Standard) (s nm : ByteArray) (g : FuncId) (hn : Contract Tryz.prog g [.agg (encStd x)] (.ret (.str nm))) : Contract Tryz.prog 88 [.agg (encStd x), .ptr [.clo (.func g) [] []], .ptr [.str s]] (.ret (.bool (decide (nm = s)))) := by
  refine contract_of mix Tryz.func88 rfl rfl (by rw [Tryz.ntmps88]; exact Nat.le_of_ble_eq_true rfl) ?_; rw [Tryz.results88, Tryz.ntmps88]; simp only [argsE, Nat.reduceAdd]
  repeat' first
           | (with_reducible apply go_op)
           | (with_reducible apply go_next)
           | ((with_reducible (show evOp _ _ _ _ _ _)); first
             | (((with_reducible apply go_mv_bool); rfl; rfl))
             | ((with_reducible apply go_as))
             | ((with_reducible (show evOp _ (.load _ _) _ _ _ _)) ; first | ((with_reducible apply go_ld_agg); rfl; rfl; rfl; rfl) | ((with_reducible apply go_load); rfl; rfl; rfl))
             | (((with_reducible apply go_bx_agg); rfl; rfl; (exact Nat.le_of_ble_eq_true rfl); rfl; rfl)))
           | ((with_reducible (show evOps _ _ _ _ _ _)); first
             | (with_reducible apply go_nil)
             | ((with_reducible apply go_pre); rfl))
           | ((with_reducible (show evG _ _ _ _ _)); first
             | (with_reducible apply go_seq)
             | (with_reducible apply go_region)
             | ((with_reducible apply go_order); kernel_rfl; rfl))
           | (with_reducible apply go_kseq)
  refine go_clo_str (d1 := .agg (encStd x)) rfl rfl (fun _ _ => rfl) hn rfl ?_
  repeat' first
           | (with_reducible apply go_op)
           | (with_reducible apply go_next)
           | ((with_reducible (show evOp _ _ _ _ _ _)); first
             | (((with_reducible apply go_mv_bool); rfl; rfl))
             | ((with_reducible apply go_as))
             | (((with_reducible apply go_load); rfl; rfl; rfl))
             | (((with_reducible apply go_bin); rfl; rfl)))
           | ((with_reducible (show evOps _ _ _ _ _ _)); first
             | (with_reducible apply go_nil)
             | ((with_reducible apply go_pre); rfl)
             | (with_reducible apply go_pre_nil)
             | ((with_reducible apply go_suf); rfl)
             | (with_reducible apply go_suf_nil))
           | ((with_reducible (show evG _ _ _ _ _)); first
             | (with_reducible apply go_ret))
           | (with_reducible apply go_kseq)
           | (with_reducible apply go_ksuf)
           | ((with_reducible apply end_bool); rfl)
           | (with_reducible rfl)
theorem c86T (l : List Standard) (hl : l.length < 1000000000000) (g g' : FuncId) (nm : Standard → ByteArray) (er : Standard → Int) (hn : ∀ x, Contract Tryz.prog g [.agg (encStd x)] (.ret (.str (nm x)))) (he : ∀ x ∈ l, Contract Tryz.prog g' [.agg (encStd x)] (.ret (.int .i64 (er x)))) :
    Contract Tryz.prog 52 [.sl (l.map encStd), .clo (.func g) [] [], .clo (.func g') [] []] (.ret (.int .i64 (eachE nm er l))) := by
  refine contract_of mix Tryz.func52 rfl rfl (by rw [Tryz.ntmps52]; exact Nat.le_of_ble_eq_true rfl) ?_; rw [Tryz.results52, Tryz.ntmps52]; simp only [argsE, Nat.reduceAdd]
  repeat' first
           | (with_reducible apply go_op)
           | (with_reducible apply go_next)
           | ((with_reducible (show evOp _ _ _ _ _ _)); first
             | ((with_reducible (show evOp _ (.move _) _ _ _ _)) ; first | ((with_reducible apply go_mv_int); rfl; rfl) | ((with_reducible apply go_mv_sl); rfl; rfl))
             | ((with_reducible apply go_as))
             | (((with_reducible apply go_len); rfl; rfl))
             | (((with_reducible apply go_bx_clo); rfl; rfl)))
           | ((with_reducible (show evOps _ _ _ _ _ _)); first
             | (with_reducible apply go_nil))
           | ((with_reducible (show evG _ _ _ _ _)); first
             | (with_reducible apply go_seq)
             | (with_reducible apply go_region)
             | (with_reducible apply go_block))
           | (with_reducible apply go_kseq)
  refine go_count l.length (fun i => ⟨[(13, .int .i64 i), (12, .int .i64 l.length), (11, .sl (l.map encStd)), (0, .sl (l.map encStd)), (2, .clo (.func g') [] []), (4, .op 0 0 0)], [(0, ⟨1, false, [[.clo (.func g) [] []]]⟩)], 32, 36⟩) (fun i => ∀ j, j < i → stepE nm er l j = 0) (entails_eq (k := 0) (ns := []) (ks := [13, 12, 11, 0, 2, 4]) [(0, 0)] rfl (by simp) rfl) (by omega) ?_
  intro i hi hC
  repeat' first
           | (with_reducible apply go_op)
           | (with_reducible apply go_next)
           | ((with_reducible (show evOp _ _ _ _ _ _)); first
             | (((with_reducible apply go_mv_int); rfl; rfl))
             | ((with_reducible apply go_as))
             | ((with_reducible (show evOp _ (.load _ _) _ _ _ _)) ; first | ((with_reducible apply go_ld_ptr); rfl; rfl; rfl) | ((with_reducible apply go_ld_agg); rfl; rfl; rfl; rfl) | ((with_reducible apply go_ld_one); rfl; rfl; rfl))
             | (((with_reducible apply go_index_nat); rfl; rfl; (with_reducible rfl); (intro; rfl); rfl; omega; (intro hlt)))
             | (((with_reducible apply go_cmp); rfl; rfl; rfl; rfl))
             | (((with_reducible apply go_st_agg); rfl; rfl; rfl; rfl; rfl; rfl; rfl))
             | (((with_reducible apply go_alloc); rfl; rfl; rfl)))
           | ((with_reducible (show evOps _ _ _ _ _ _)); first
             | (with_reducible apply go_nil))
           | ((with_reducible (show evG _ _ _ _ _)); first
             | (with_reducible apply go_seq)
             | (with_reducible apply go_region)
             | (((with_reducible apply go_cond); rfl) <;> (intro h; simp only [h]; try simp only [decide_eq_true_eq, decide_eq_false_iff_not, Bool.not_eq_true', Bool.not_eq_false', Bool.not_true, Bool.not_false] at h; try exact absurd trivial h))
             | (with_reducible apply go_ret)
             | (with_reducible apply go_skipc)
             | (with_reducible apply go_block)
             | (with_reducible apply go_exit))
           | (with_reducible apply go_kseq)
           | (with_reducible apply go_kblock_exit)
           | (with_reducible apply go_kseq_exit)
           | ((with_reducible apply end_int); rfl)
  refine go_clo_str (d1 := .agg (encStd l[i])) rfl rfl (fun _ _ => rfl) (hn _) rfl ?_
  repeat' first
           | (with_reducible apply go_op)
           | (with_reducible apply go_next)
           | ((with_reducible (show evOp _ _ _ _ _ _)); first
             | (((with_reducible apply go_ld_one); rfl; rfl; rfl))
             | (((with_reducible apply go_st_str); rfl; rfl; rfl))
             | (((with_reducible apply go_alloc); rfl; rfl; rfl)))
           | ((with_reducible (show evOps _ _ _ _ _ _)); first
             | (with_reducible apply go_nil))
           | ((with_reducible (show evG _ _ _ _ _)); first
             | (with_reducible apply go_seq)
             | (with_reducible apply go_region))
           | (with_reducible apply go_kseq)
  refine go_fn_bool (args' := [.str (nm l[i])]) rfl (c137 _) rfl ?_
  repeat' first
           | (with_reducible apply go_op)
           | (with_reducible apply go_next)
           | ((with_reducible (show evOp _ _ _ _ _ _)); first
             | ((with_reducible (show evOp _ (.move _) _ _ _ _)) ; first | ((with_reducible apply go_mv_int); rfl; rfl) | ((with_reducible apply go_mv_sl); rfl; rfl))
             | ((with_reducible apply go_as))
             | (((with_reducible apply go_take_sl); rfl; rfl; (intro; rfl); rfl; omega))
             | (((with_reducible apply go_not); rfl; rfl))
             | (((with_reducible apply go_fn2); rfl; rfl; rfl)))
           | ((with_reducible (show evOps _ _ _ _ _ _)); first
             | (with_reducible apply go_nil))
           | ((with_reducible (show evG _ _ _ _ _)); first
             | (with_reducible apply go_seq)
             | (with_reducible apply go_region)
             | (((with_reducible apply go_cond); rfl) <;> (intro h; simp only [h]; try simp only [decide_eq_true_eq, decide_eq_false_iff_not, Bool.not_eq_true', Bool.not_eq_false', Bool.not_true, Bool.not_false] at h; try exact absurd trivial h))
             | (with_reducible apply go_ret)
             | (with_reducible apply go_skipc))
           | (with_reducible apply go_kseq)
           | (with_reducible apply go_kseq_ret)
           | (with_reducible apply go_kblock_ret)
           | ((with_reducible apply end_int); rfl)
  · have h2 : i < l.length := by omega
    exact each_at h2 hC (by simp [stepE, h2, h]) (by decide)
  refine go_fn_bool (args' := [.sl ((l.take i).map encStd), .clo (.func 88) [] [.ptr [.clo (.func g) [] []], .ptr [.str (nm l[i])]]]) rfl (c140T (l.take i) (by simp; omega) 88 _ (fun _ _ => rfl) rfl (fun y => decide (nm y = nm l[i])) fun y _ => c141T y _ _ g (hn y)) rfl ?_
  repeat' first
           | (with_reducible apply go_op)
           | (with_reducible apply go_next)
           | ((with_reducible (show evOp _ _ _ _ _ _)); first
             | ((with_reducible (show evOp _ (.move _) _ _ _ _)) ; first | ((with_reducible apply go_mv_int); rfl; rfl) | ((with_reducible apply go_mv_clo); rfl; rfl))
             | ((with_reducible apply go_as))
             | (((with_reducible apply go_ld_agg); rfl; rfl; rfl; rfl)))
           | ((with_reducible (show evOps _ _ _ _ _ _)); first
             | (with_reducible apply go_nil))
           | ((with_reducible (show evG _ _ _ _ _)); first
             | (with_reducible apply go_seq)
             | (with_reducible apply go_region)
             | (((with_reducible apply go_cond); rfl) <;> (intro h; simp only [h]; try simp only [decide_eq_true_eq, decide_eq_false_iff_not, Bool.not_eq_true', Bool.not_eq_false', Bool.not_true, Bool.not_false] at h; try exact absurd trivial h))
             | (with_reducible apply go_ret)
             | (with_reducible apply go_skipc))
           | (with_reducible apply go_kseq)
           | (with_reducible apply go_kseq_ret)
           | (with_reducible apply go_kblock_ret)
           | ((with_reducible apply end_int); rfl)
  · rename_i h1 _
    have h2 : i < l.length := by omega
    exact each_at h2 hC (by simp only [stepE, List.getElem?_eq_getElem h2, h, *]; simp) (by decide)
  refine go_clo_int (d1 := .agg (encStd l[i])) rfl rfl (fun _ _ => rfl) (he _ (List.getElem_mem _)) rfl ?_
  repeat' first
           | (with_reducible apply go_op)
           | (with_reducible apply go_next)
           | ((with_reducible (show evOp _ _ _ _ _ _)); first
             | (((with_reducible apply go_mv_int); rfl; rfl))
             | ((with_reducible apply go_as))
             | ((with_reducible (show evOp _ (.binOp _ _ _ _ _) _ _ _ _)) ; first | ((with_reducible apply go_cmp); rfl; rfl; rfl; rfl) | ((with_reducible apply go_add); rfl; rfl; rfl; omega)))
           | ((with_reducible (show evOps _ _ _ _ _ _)); first
             | (with_reducible apply go_nil))
           | ((with_reducible (show evG _ _ _ _ _)); first
             | (with_reducible apply go_seq)
             | (with_reducible apply go_region)
             | (((with_reducible apply go_cond); rfl) <;> (intro h; simp only [h]; try simp only [decide_eq_true_eq, decide_eq_false_iff_not, Bool.not_eq_true', Bool.not_eq_false', Bool.not_true, Bool.not_false] at h; try exact absurd trivial h))
             | (with_reducible apply go_ret)
             | (with_reducible apply go_skipc))
           | (with_reducible apply go_kseq)
           | (with_reducible apply go_kseq_ret)
           | (with_reducible apply go_kblock)
           | (with_reducible apply go_kblock_ret)
           | ((with_reducible apply end_int); rfl)
  · have h2 : i < l.length := by omega
    exact each_at h2 hC (by simp only [stepE, List.getElem?_eq_getElem h2, *]; simp) h
  · have h2 : i < l.length := by omega
    refine ⟨h2, fun j hj => ?_, entails_eq (k := 0) (ns := []) (ks := [13, 12, 11, 0, 2, 4]) [(0, 0)] rfl (by simp) rfl⟩
    rcases Nat.lt_succ_iff_lt_or_eq.1 hj with h' | rfl
    · exact hC j h'
    · simp only [stepE, List.getElem?_eq_getElem h2, *]; simp
  · refine (firstE_zero fun j hj => hC j (by omega)).symm

/-- The error of standards. -/
def stdsE (l : List Standard) : Int := eachE (fun t => t.sub) (fun t => limE t.limits) l
theorem c_stds (l : List Standard) (hl : l.length < 1000000000000) (hls : ∀ x ∈ l, x.limits.length ≤ 9223372036854775807) :
    Contract Tryz.prog 52 [.sl (l.map encStd), .clo (.func 53) [] [], .clo (.func 54) [] []] (.ret (.int .i64 (stdsE l))) :=
  c86T l hl _ _ _ _ c_substance fun x hx => c_limitsErr x (hls x hx)
theorem stds_at {l : List Standard} {i : Nat} {e : Int} (hi : i < l.length) (hC : ∀ j, j < i → stepE (fun t : Standard => t.sub) (fun t => limE t.limits) l j = 0) (h : stepE (fun t : Standard => t.sub) (fun t => limE t.limits) l i = e) (he : e ≠ 0) : e = stdsE l := each_at hi hC h he
theorem stds_step {l : List Standard} {i : Nat} (hC : ∀ j, j < i → stepE (fun t : Standard => t.sub) (fun t => limE t.limits) l j = 0) (h : stepE (fun t : Standard => t.sub) (fun t => limE t.limits) l i = 0) : ∀ j, j < i + 1 → stepE (fun t : Standard => t.sub) (fun t => limE t.limits) l j = 0 := fun j hj => by
  rcases Nat.lt_succ_iff_lt_or_eq.1 hj with h' | rfl
  · exact hC j h'
  · exact h
theorem stds_is {l : List Standard} {i : Nat} (h : i < l.length) : stepE (fun t : Standard => t.sub) (fun t => limE t.limits) l i = if nameOK l[i].sub = false then 4 else if ((l.take i).any fun y => decide (y.sub = l[i].sub)) = true then 5 else limE l[i].limits := by
  simp only [stepE, List.getElem?_eq_getElem h]
theorem c_checkStds (l : List Standard) (hl : l.length < 1000000000000) (hls : ∀ x ∈ l, x.limits.length ≤ 9223372036854775807) :
    Contract Tryz.prog 30 [.sl (l.map encStd)] (.ret (.int .i64 (if 8 < l.length then 8 else stdsE l))) := by
  by_cases hn : 8 < l.length
  · rw [if_pos hn]
    refine contract_of mix Tryz.func30 rfl rfl (by rw [Tryz.ntmps30]; exact Nat.le_of_ble_eq_true rfl) ?_; rw [Tryz.results30, Tryz.ntmps30]; simp only [argsE, Nat.reduceAdd]
    repeat' first
           | (with_reducible apply go_op)
           | (with_reducible apply go_next)
           | ((with_reducible (show evOp _ _ _ _ _ _)); first
             | ((with_reducible (show evOp _ (.move _) _ _ _ _)) ; first | ((with_reducible apply go_mv_int); rfl; rfl) | ((with_reducible apply go_mv_sl); rfl; rfl))
             | ((with_reducible apply go_as))
             | (((with_reducible apply go_cmp); rfl; rfl; rfl; rfl))
             | (((with_reducible apply go_len); rfl; rfl)))
           | ((with_reducible (show evOps _ _ _ _ _ _)); first
             | (with_reducible apply go_nil))
           | ((with_reducible (show evG _ _ _ _ _)); first
             | (with_reducible apply go_seq)
             | (with_reducible apply go_region)
             | (((with_reducible apply go_cond); rfl) <;> (intro h; simp only [h]; try simp only [decide_eq_true_eq, decide_eq_false_iff_not, Bool.not_eq_true', Bool.not_eq_false', Bool.not_true, Bool.not_false] at h; try exact absurd trivial h))
             | (with_reducible apply go_ret)
             | (with_reducible apply go_skipc)
             | (with_reducible apply go_block))
           | (with_reducible apply go_kseq)
           | (with_reducible apply go_kseq_ret)
           | ((with_reducible apply end_int); rfl)
           | (with_reducible rfl)
    all_goals (exfalso; omega)
  · rw [if_neg hn]
    refine contract_of mix Tryz.func30 rfl rfl (by rw [Tryz.ntmps30]; exact Nat.le_of_ble_eq_true rfl) ?_; rw [Tryz.results30, Tryz.ntmps30]; simp only [argsE, Nat.reduceAdd]
    repeat' first
           | (with_reducible apply go_op)
           | (with_reducible apply go_next)
           | ((with_reducible (show evOp _ _ _ _ _ _)); first
             | ((with_reducible (show evOp _ (.move _) _ _ _ _)) ; first | ((with_reducible apply go_mv_int); rfl; rfl) | ((with_reducible apply go_mv_sl); rfl; rfl))
             | ((with_reducible apply go_as))
             | (((with_reducible apply go_cmp); rfl; rfl; rfl; rfl))
             | (((with_reducible apply go_len); rfl; rfl)))
           | ((with_reducible (show evOps _ _ _ _ _ _)); first
             | (with_reducible apply go_nil))
           | ((with_reducible (show evG _ _ _ _ _)); first
             | (with_reducible apply go_seq)
             | (with_reducible apply go_region)
             | (((with_reducible apply go_cond); rfl) <;> (intro h; simp only [h]; try simp only [decide_eq_true_eq, decide_eq_false_iff_not, Bool.not_eq_true', Bool.not_eq_false', Bool.not_true, Bool.not_false] at h; try exact absurd trivial h))
             | (with_reducible apply go_ret)
             | (with_reducible apply go_skipc)
             | (with_reducible apply go_block))
           | (with_reducible apply go_kseq)
           | (with_reducible apply go_kseq_ret)
           | ((with_reducible apply end_int); rfl)
    all_goals try (exfalso; omega)
    refine go_count l.length (fun i => ⟨[(3, .int .i64 i), (0, .sl (l.map encStd))], [], 0, 46⟩) (fun i => ∀ j, j < i → stepE (fun t : Standard => t.sub) (fun t => limE t.limits) l j = 0) (entails_eq (k := 0) (ns := []) (ks := [3, 0]) [] rfl (by simp) rfl) (fun j hj => absurd hj (by omega)) ?_
    intro i hi hC
    by_cases hlt : i < l.length
    · have hs := stds_is hlt
      have hlim := hls l[i] (List.getElem_mem hlt)
      repeat' first
           | (with_reducible apply go_op)
           | (with_reducible apply go_next)
           | ((with_reducible (show evOp _ _ _ _ _ _)); first
             | ((with_reducible (show evOp _ (.move _) _ _ _ _)) ; first | ((with_reducible apply go_mv_int); rfl; rfl) | ((with_reducible apply go_mv_sl); rfl; rfl))
             | ((with_reducible apply go_as))
             | (((with_reducible apply go_load); rfl; rfl; rfl))
             | (((with_reducible apply go_fieldAddr); rfl; rfl))
             | (((with_reducible apply go_index_nat); rfl; rfl; (with_reducible rfl); (intro; rfl); rfl; omega; (intro hlt)))
             | (((with_reducible apply go_cmp); rfl; rfl; rfl; rfl))
             | ((with_reducible (show evOp _ (.call _) _ _ _ _)) ; first | ((with_reducible apply go_len); rfl; rfl) | ((with_reducible apply go_fn_bool); rfl; (exact c83 _); rfl))
             | (((with_reducible apply go_not); rfl; rfl)))
           | ((with_reducible (show evOps _ _ _ _ _ _)); first
             | (with_reducible apply go_nil))
           | ((with_reducible (show evG _ _ _ _ _)); first
             | (with_reducible apply go_seq)
             | (with_reducible apply go_region)
             | (((with_reducible apply go_cond); rfl) <;> (intro h; simp only [h]; try simp only [decide_eq_true_eq, decide_eq_false_iff_not, Bool.not_eq_true', Bool.not_eq_false', Bool.not_true, Bool.not_false] at h; try exact absurd trivial h))
             | (with_reducible apply go_ret)
             | (with_reducible apply go_skipc)
             | (with_reducible apply go_block)
             | (with_reducible apply go_exit))
           | (with_reducible apply go_kseq)
           | (with_reducible apply go_kseq_ret)
           | (with_reducible apply go_kblock_ret)
           | (with_reducible apply go_kblock_exit)
           | (with_reducible apply go_kseq_exit)
           | ((with_reducible apply end_int); rfl)
      all_goals try exact absurd hlt (by omega)
      · exact stds_at hlt hC (by rw [hs, if_pos (by simp [*])]) (by decide)
      · have hnm : nameOK l[i].sub = true := by assumption
        refine go_count i (fun k => ⟨[(4, .int .i64 k), (3, .int .i64 i), (0, .sl (l.map encStd))], [], 32, 46⟩) (fun k => ∀ j (hj : j < k) (hj' : j < l.length), l[j].sub ≠ l[i].sub) (entails_eq (nx := 32) (k := 0) (ns := []) (ks := [4, 3, 0]) [] rfl (by simp) (by kernel_rfl)) (fun j hj => absurd hj (by omega)) ?_
        intro k hk hK
        by_cases hlk : k < i
        · have hkl : k < l.length := by omega
          repeat' first
           | (with_reducible apply go_op)
           | (with_reducible apply go_next)
           | ((with_reducible (show evOp _ _ _ _ _ _)); first
             | ((with_reducible (show evOp _ (.move _) _ _ _ _)) ; first | ((with_reducible apply go_mv_int); rfl; rfl) | ((with_reducible apply go_mv_sl); rfl; rfl))
             | ((with_reducible apply go_as))
             | ((with_reducible (show evOp _ (.load _ _) _ _ _ _)) ; first | ((with_reducible apply go_ld_ptr); rfl; rfl; rfl) | ((with_reducible apply go_load); rfl; rfl; rfl))
             | (((with_reducible apply go_fieldAddr); rfl; rfl))
             | (((with_reducible apply go_index_nat); rfl; rfl; (with_reducible rfl); (intro; rfl); rfl; omega; (intro hlt)))
             | ((with_reducible (show evOp _ (.binOp _ _ _ _ _) _ _ _ _)) ; first | ((with_reducible apply go_cmp); rfl; rfl; rfl; rfl) | ((with_reducible apply go_add); rfl; rfl; rfl; omega) | ((with_reducible apply go_bin); rfl; rfl)))
           | ((with_reducible (show evOps _ _ _ _ _ _)); first
             | (with_reducible apply go_nil)
             | ((with_reducible apply go_pre); rfl)
             | (with_reducible apply go_pre_nil)
             | ((with_reducible apply go_suf); rfl)
             | (with_reducible apply go_suf_nil))
           | ((with_reducible (show evG _ _ _ _ _)); first
             | (with_reducible apply go_seq)
             | (with_reducible apply go_region)
             | (((with_reducible apply go_cond); rfl) <;> (intro h; simp only [h]; try simp only [decide_eq_true_eq, decide_eq_false_iff_not, Bool.not_eq_true', Bool.not_eq_false', Bool.not_true, Bool.not_false] at h; try exact absurd trivial h))
             | ((with_reducible apply go_order); kernel_rfl; rfl)
             | (with_reducible apply go_ret)
             | (with_reducible apply go_skipc)
             | (with_reducible apply go_block)
             | (with_reducible apply go_exit))
           | (with_reducible apply go_kseq)
           | (with_reducible apply go_ksuf)
           | (with_reducible apply go_kseq_ret)
           | (with_reducible apply go_kblock)
           | (with_reducible apply go_kblock_ret)
           | (with_reducible apply go_kblock_exit)
           | (with_reducible apply go_kseq_exit)
           | ((with_reducible apply end_int); rfl)
          all_goals try exact absurd hlk (by omega)
          · refine stds_at (i := i) (by omega) hC (by rw [hs, if_neg (by simp [hnm]), if_pos]; exact List.any_eq_true.2 ⟨l[k], List.mem_iff_getElem.2 ⟨k, by simp; omega, by simp⟩, by simp; assumption⟩) (by decide)
          · refine ⟨hlk, fun j hj hj' => ?_, entails_eq (nx := 32) (k := 0) (ns := []) (ks := [4, 3, 0]) [] rfl (by simp) (by kernel_rfl)⟩
            rcases Nat.lt_succ_iff_lt_or_eq.1 hj with h' | rfl
            · exact hK j h' hj'
            · assumption
        · have e : k = i := by omega
          have hany : ¬ ((l.take i).any fun y => decide (y.sub = l[i].sub)) = true := fun h => by
            obtain ⟨y, hy, he⟩ := List.any_eq_true.1 h
            obtain ⟨j, hj, rfl⟩ := List.mem_iff_getElem.1 hy
            have hj2 : j < i := by simp at hj; omega
            rw [List.getElem_take] at he
            exact hK j (by omega) (by omega) (by simpa using he)
          rw [if_neg (by simp [hnm]), if_neg hany] at hs
          clear hany
          repeat' first
           | (with_reducible apply go_op)
           | (with_reducible apply go_next)
           | ((with_reducible (show evOp _ _ _ _ _ _)); first
             | ((with_reducible (show evOp _ (.move _) _ _ _ _)) ; first | ((with_reducible apply go_mv_int); rfl; rfl) | ((with_reducible apply go_mv_sl); rfl; rfl))
             | ((with_reducible apply go_as))
             | ((with_reducible (show evOp _ (.load _ _) _ _ _ _)) ; first | ((with_reducible apply go_ld_ptr); rfl; rfl; rfl) | ((with_reducible apply go_load); rfl; rfl; rfl))
             | (((with_reducible apply go_fieldAddr); rfl; rfl))
             | (((with_reducible apply go_index_nat); rfl; rfl; (with_reducible rfl); (intro; rfl); rfl; omega; (intro hlt)))
             | ((with_reducible (show evOp _ (.binOp _ _ _ _ _) _ _ _ _)) ; first | ((with_reducible apply go_cmp); rfl; rfl; rfl; rfl) | ((with_reducible apply go_add); rfl; rfl; rfl; omega) | ((with_reducible apply go_bin); rfl; rfl))
             | (((with_reducible apply go_fn_int); rfl; (exact c_checkLimits l[i] hlim); rfl)))
           | ((with_reducible (show evOps _ _ _ _ _ _)); first
             | (with_reducible apply go_nil)
             | ((with_reducible apply go_pre); rfl)
             | (with_reducible apply go_pre_nil)
             | ((with_reducible apply go_suf); rfl)
             | (with_reducible apply go_suf_nil))
           | ((with_reducible (show evG _ _ _ _ _)); first
             | (with_reducible apply go_seq)
             | (with_reducible apply go_region)
             | (((with_reducible apply go_cond); rfl) <;> (intro h; simp only [h]; try simp only [decide_eq_true_eq, decide_eq_false_iff_not, Bool.not_eq_true', Bool.not_eq_false', Bool.not_true, Bool.not_false] at h; try exact absurd trivial h))
             | ((with_reducible apply go_order); kernel_rfl; rfl)
             | (with_reducible apply go_ret)
             | (with_reducible apply go_skipc)
             | (with_reducible apply go_block)
             | (with_reducible apply go_exit))
           | (with_reducible apply go_kseq)
           | (with_reducible apply go_ksuf)
           | (with_reducible apply go_kseq_ret)
           | (with_reducible apply go_kblock)
           | (with_reducible apply go_kblock_ret)
           | (with_reducible apply go_kblock_exit)
           | (with_reducible apply go_kseq_exit)
           | ((with_reducible apply end_int); rfl)
          all_goals first
            | exact absurd hlk (by omega)
            | exact stds_at (i := i) (by omega) hC hs (by assumption)
            | exact ⟨by omega, stds_step hC (by rw [hs]; assumption), entails_eq (nx := 0) (k := 0) (ns := []) (ks := [3, 0]) [] rfl (by simp) (by kernel_rfl)⟩
            | trace_state
    · repeat' first
           | (with_reducible apply go_op)
           | (with_reducible apply go_next)
           | ((with_reducible (show evOp _ _ _ _ _ _)); first
             | ((with_reducible (show evOp _ (.move _) _ _ _ _)) ; first | ((with_reducible apply go_mv_int); rfl; rfl) | ((with_reducible apply go_mv_sl); rfl; rfl))
             | ((with_reducible apply go_as))
             | (((with_reducible apply go_load); rfl; rfl; rfl))
             | (((with_reducible apply go_fieldAddr); rfl; rfl))
             | (((with_reducible apply go_index_nat); rfl; rfl; (with_reducible rfl); (intro; rfl); rfl; omega; (intro hlt)))
             | (((with_reducible apply go_cmp); rfl; rfl; rfl; rfl))
             | (((with_reducible apply go_len); rfl; rfl)))
           | ((with_reducible (show evOps _ _ _ _ _ _)); first
             | (with_reducible apply go_nil))
           | ((with_reducible (show evG _ _ _ _ _)); first
             | (with_reducible apply go_seq)
             | (with_reducible apply go_region)
             | (((with_reducible apply go_cond); rfl) <;> (intro h; simp only [h]; try simp only [decide_eq_true_eq, decide_eq_false_iff_not, Bool.not_eq_true', Bool.not_eq_false', Bool.not_true, Bool.not_false] at h; try exact absurd trivial h))
             | (with_reducible apply go_ret)
             | (with_reducible apply go_skipc)
             | (with_reducible apply go_block)
             | (with_reducible apply go_exit))
           | (with_reducible apply go_kseq)
           | (with_reducible apply go_kblock_exit)
           | (with_reducible apply go_kseq_exit)
           | ((with_reducible apply end_int); rfl)
      all_goals first
        | exact absurd hlt (by omega)
        | exact (firstE_zero fun j hj => hC j (by omega)).symm
        | trace_state
end Go.Pv.Soil

/- The rank-th value by counting: plain. -/
namespace Go.Pv.Soil
/-- How many of the first k come before the i-th one. -/
def bef (l : List Int) (v : Int) (i k : Nat) : Nat := (l.take k).countP (fun x => decide (x < v)) + (l.take (min k i)).countP (fun x => decide (x = v))
theorem bef_zero (l : List Int) (v : Int) (i : Nat) : bef l v i 0 = 0 := by simp [bef]
theorem bef_step {l : List Int} {v : Int} {i k : Nat} (hk : k < l.length) : bef l v i (k + 1) = if l[k] < v ∨ (l[k] = v ∧ k < i) then bef l v i k + 1 else bef l v i k := by
  unfold bef
  rw [List.take_succ_eq_append_getElem hk, List.countP_append, List.countP_cons, List.countP_nil]
  by_cases hlt : k < i
  · rw [show min (k + 1) i = k + 1 by omega, show min k i = k by omega, List.take_succ_eq_append_getElem hk, List.countP_append, List.countP_cons, List.countP_nil]
    by_cases h1 : l[k] < v
    · have h2 : l[k] ≠ v := by omega
      rw [if_pos (by simpa using h1), if_neg (by simpa using h2), if_pos (.inl h1)]
      omega
    · by_cases h2 : l[k] = v
      · rw [if_neg (by simpa using h1), if_pos (by simpa using h2), if_pos (.inr ⟨h2, hlt⟩)]
        omega
      · rw [if_neg (by simpa using h1), if_neg (by simpa using h2), if_neg (by rintro (h | h); exact h1 h; exact h2 h.1)]
        omega
  · rw [show min (k + 1) i = min k i by omega]
    by_cases h1 : l[k] < v
    · rw [if_pos (by simpa using h1), if_pos (.inl h1)]
      omega
    · rw [if_neg (by simpa using h1), if_neg (by rintro (h | h); exact h1 h; exact hlt h.2)]
      omega
theorem cnt_split (l : List Int) (v : Int) : l.countP (fun x => decide (x ≤ v)) = l.countP (fun x => decide (x < v)) + l.countP (fun x => decide (x = v)) := by
  induction l with
  | nil => rfl
  | cons a l ih =>
    rw [List.countP_cons, List.countP_cons, List.countP_cons, ih]
    rcases Int.lt_trichotomy a v with h | h | h
    · rw [if_pos (by simp; omega), if_pos (by simpa using h), if_neg (by simp; omega)]; omega
    · rw [if_pos (by simp; omega), if_neg (by simp; omega), if_pos (by simpa using h)]; omega
    · rw [if_neg (by simp; omega), if_neg (by simp; omega), if_neg (by simp; omega)]; omega
theorem cnt_mono (l : List Int) {u v : Int} (h : u < v) : l.countP (fun x => decide (x ≤ u)) ≤ l.countP fun x => decide (x < v) :=
  List.countP_mono_left fun x _ hx => by simp at hx ⊢; omega
theorem nth_of (p : Int → Bool) : ∀ (l : List Int) (t : Nat), t < l.countP p → ∃ i, ∃ h : i < l.length, p l[i] = true ∧ (l.take i).countP p = t
  | [], t, h => by simp at h
  | a :: l, t, h => by
    rw [List.countP_cons] at h
    by_cases hp : p a = true
    · cases t with
      | zero => exact ⟨0, by simp, by simpa using hp, by simp⟩
      | succ t =>
        rw [if_pos hp] at h
        obtain ⟨i, hi, h1, h2⟩ := nth_of p l t (by omega)
        exact ⟨i + 1, by simp; omega, by simpa using h1, by rw [List.take_succ_cons, List.countP_cons, if_pos hp, h2]⟩
    · rw [if_neg hp] at h
      obtain ⟨i, hi, h1, h2⟩ := nth_of p l t (by omega)
      exact ⟨i + 1, by simp; omega, by simpa using h1, by rw [List.take_succ_cons, List.countP_cons, if_neg hp, h2, Nat.add_zero]⟩
/-- The rank. -/
def rankN (n : Nat) (num den : Int) : Nat := (((n : Int) * num + den - 1).tdiv den).toNat
theorem rankN_pos {n : Nat} {num den : Int} (hn : 0 < n) (hd : 1 ≤ den) (hnum : 1 ≤ num ∧ num ≤ den) : 1 ≤ rankN n num den ∧ rankN n num den ≤ n := by
  have hp0 : num ≤ (n : Int) * num := by have := Int.mul_le_mul_of_nonneg_right (show (1 : Int) ≤ n by omega) (show 0 ≤ num by omega); omega
  have hp1 : (n : Int) * num ≤ n * den := Int.mul_le_mul_of_nonneg_left hnum.2 (by omega)
  unfold rankN
  rw [Int.tdiv_eq_ediv_of_nonneg (by omega)]
  have h1 : 1 ≤ ((n : Int) * num + den - 1) / den := (Int.le_ediv_iff_mul_le (by omega)).2 (by omega)
  have h2 : ((n : Int) * num + den - 1) / den < n + 1 := Int.ediv_lt_of_lt_mul (by omega) (by rw [Int.add_mul, Int.one_mul]; omega)
  omega
/-- Rounding up by rounding down. -/
theorem ceil_rank {n : Nat} {num den : Int} (hn : 0 ≤ (n : Int) * num) (hd : 1 ≤ den) : -(-((n : Int) * num) / den) = rankN n num den := by
  unfold rankN
  rw [Int.tdiv_eq_ediv_of_nonneg (by omega)]
  have h0 : 0 ≤ ((n : Int) * num + den - 1) / den := Int.ediv_nonneg (by omega) (by omega)
  have h1 := Int.mul_ediv_add_emod ((n : Int) * num + den - 1) den
  have h2 := Int.emod_nonneg ((n : Int) * num + den - 1) (show den ≠ 0 by omega)
  have h3 := Int.emod_lt_of_pos ((n : Int) * num + den - 1) (show 0 < den by omega)
  have h4 := Int.mul_ediv_add_emod (-((n : Int) * num)) den
  have h5 := Int.emod_nonneg (-((n : Int) * num)) (show den ≠ 0 by omega)
  have h6 := Int.emod_lt_of_pos (-((n : Int) * num)) (show 0 < den by omega)
  generalize ((n : Int) * num + den - 1) / den = q at *
  generalize -((n : Int) * num) / den = p at *
  have e : den * (q + p) < den * 1 ∧ den * (-1) < den * (q + p) := by
    have e1 : den * (q + p) = den * q + den * p := Int.mul_add _ _ _
    constructor <;> omega
  have h7 := Int.lt_of_mul_lt_mul_left e.1 (by omega)
  have h8 := Int.lt_of_mul_lt_mul_left e.2 (by omega)
  omega
theorem bef_all (l : List Int) (i : Nat) (h : i < l.length) : bef l l[i] i l.length = l.countP (fun x => decide (x < l[i])) + (l.take i).countP (fun x => decide (x = l[i])) := by
  unfold bef
  rw [List.take_length, show min l.length i = i by omega]
/-- The one before which there are rank - 1 has the ranked value. -/
theorem rank_of {l : List Int} {num den : Int} (hn : 0 < l.length) (hd : 1 ≤ den) (hnum : 1 ≤ num ∧ num ≤ den) {i : Nat} (h : i < l.length) (he : bef l l[i] i l.length + 1 = rankN l.length num den) : l[i] = rankI l num den := by
  rw [bef_all l i h] at he
  have h1 : (l.take i).countP (fun x => decide (x = l[i])) + 1 ≤ l.countP fun x => decide (x = l[i]) := by
    have e : l.countP (fun x => decide (x = l[i])) = (l.take i).countP (fun x => decide (x = l[i])) + (l.drop i).countP (fun x => decide (x = l[i])) := by rw [← List.countP_append, List.take_append_drop]
    rw [e]
    have : 0 < (l.drop i).countP fun x => decide (x = l[i]) := List.countP_pos_iff.2 ⟨l[i], (List.drop_eq_getElem_cons h) ▸ List.mem_cons_self, by simp⟩
    omega
  have h2 := cnt_split l l[i]
  have h3 := rankI_cnt hn hd hnum
  have hr := rankN_pos hn hd hnum
  have hrn : (((l.length : Int) * num + den - 1).tdiv den).toNat = rankN l.length num den := rfl
  rw [hrn] at h3
  refine Int.le_antisymm ?_ (rankI_least hn hd hnum (by rw [hrn]; omega))
  rcases Int.lt_or_le (rankI l num den) l[i] with hlt | hle
  · have := cnt_mono l hlt
    omega
  · exact hle
/-- There is one before which there are rank - 1. -/
theorem rank_ex {l : List Int} {num den : Int} (hn : 0 < l.length) (hd : 1 ≤ den) (hnum : 1 ≤ num ∧ num ≤ den) : ∃ i, ∃ h : i < l.length, bef l l[i] i l.length + 1 = rankN l.length num den := by
  obtain ⟨hg, hge⟩ := rankI_get hn hd hnum
  have hr := rankN_pos hn hd hnum
  have hrn : (((l.length : Int) * num + den - 1).tdiv den).toNat = rankN l.length num den := rfl
  have h3 := rankI_cnt hn hd hnum
  rw [hrn] at h3
  have h2 := cnt_split l (rankI l num den)
  have h4 : l.countP (fun x => decide (x < rankI l num den)) ≤ rankN l.length num den - 1 := by
    by_cases h0 : rankN l.length num den - 1 < (l.mergeSort fun x y => decide (x ≤ y)).length
    · have := cnt_high (sortI_pw l) hg (u := rankI l num den - 1) (by rw [← hge]; omega)
      rw [cnt_sort] at this
      refine Nat.le_trans (Nat.le_of_eq (List.countP_congr fun x _ => ?_)) this
      simp; omega
    · rw [List.length_mergeSort] at h0; omega
  obtain ⟨i, hi, h5, h6⟩ := nth_of (fun x => decide (x = rankI l num den)) l (rankN l.length num den - 1 - l.countP fun x => decide (x < rankI l num den)) (by omega)
  have h7 : l[i] = rankI l num den := by simpa using h5
  refine ⟨i, hi, ?_⟩
  rw [bef_all l i hi, h7, h6]
  omega
end Go.Pv.Soil

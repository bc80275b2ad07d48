import Derived.Test.YtgmlfdjplilpoaaProg
import Derived.Test.YtgmlfdjplilpoaaMAE
import Derived.KernelRfl
import Derived.Test.YtgmlfdjplilpoaaMAD
/- Part of the proofs over Ytgmlfdjplilpoaa: K4, K5, K6, K7, K8, K9, K10, K11, K12, K13, K14, K15. -/
set_option linter.unusedVariables false
set_option linter.unusedSimpArgs false
set_option linter.unnecessarySimpa false
open Go Go.Proofs Go.Pv
set_option maxHeartbeats 4000000
set_option maxRecDepth 100000
set_option linter.unusedSimpArgs false
set_option linter.unusedVariables false
namespace Go.Pv.Soil

/-- What is so of a yard that is one. -/
structure OkYard (s : Yard) : Prop where
  p8 : s.pits.length ≤ 8
  pok : ∀ p ∈ s.pits, pitOK p = true ∧ clsOK p.classes ∧ nameOK p.name = true ∧ p.classes.length ≤ 1000000
  pd : s.pits.Pairwise fun x y => x.name ≠ y.name
  b20 : s.bulk.length ≤ 20
  bok : ∀ b ∈ s.bulk, bulkOK b = true ∧ nameOK b.soil = true
  bd : s.bulk.Pairwise fun x y => x.soil ≠ y.soil
  cl : s.carry.length = s.bulk.length
  cok : ∀ i (h : i < s.carry.length) (h' : i < s.bulk.length), 0 ≤ s.carry[i] ∧ s.carry[i] ≤ s.bulk[i].den - 1
  d200 : s.deps.length ≤ 200
  dok : ∀ d ∈ s.deps, depOK d = true ∧ 0 ≤ pitI s d.pit
  dd : s.deps.Pairwise fun x y => x.batch ≠ y.batch
  room : ∀ p ∈ s.pits, 0 ≤ capE p - takE s.deps p.name
theorem take_names {α β : Type} {f : α → β} {l : List α} (h : l.Pairwise fun x y => f x ≠ f y) {i : Nat} (hi : i < l.length) : ∀ x ∈ l.take i, f x ≠ f l[i] := fun x hx => by
  obtain ⟨j, hj, rfl⟩ := List.mem_iff_getElem.1 hx
  rw [List.length_take] at hj
  rw [List.getElem_take]
  exact List.pairwise_iff_getElem.1 h j i (by omega) hi (by omega)
theorem k_namedP (l : List Pit) (hl : l.length < 1000000000000) (g g' : FuncId) (hn : ∀ x, Contract Try.prog g [.agg (encPit x)] (.ret (.str x.name))) (he : ∀ x ∈ l, Contract Try.prog g' [.agg (encPit x)] (.ret (.int .i64 0)))
    (hok : ∀ x ∈ l, nameOK x.name = true) (hd : l.Pairwise fun x y => x.name ≠ y.name) : Contract Try.prog 53 [.sl (l.map encPit), .clo (.func g) [] [], .clo (.func g') [] []] (.ret (.int .i64 0)) := by
  refine contract_of mix Try.func53 rfl rfl (by rw [Try.ntmps53]; exact Nat.le_of_ble_eq_true rfl) ?_; rw [Try.results53, Try.ntmps53]; simp only [argsE, Nat.reduceAdd]
  repeat' first
           | ((with_reducible (show evG _ _ (.region 1 _ _) _ _)); (with_reducible apply go_regionM))
           | ((with_reducible apply goM_makeMap); rfl)
           | (with_reducible apply goM_op)
           | (with_reducible apply goM_next)
           | (with_reducible apply goM_nil)
           | (with_reducible apply go_op)
           | (with_reducible apply go_next)
           | ((with_reducible (show evOp _ _ _ _ _ _)); first
             | ((with_reducible (show evOp _ (.move _) _ _ _ _)) ; first | ((with_reducible apply go_mv_int); rfl; rfl) | ((with_reducible apply go_mv_sl); rfl; rfl) | ((with_reducible apply go_mv_om); rfl; rfl))
             | ((with_reducible apply go_as))
             | (((with_reducible apply go_len); rfl; rfl)))
           | ((with_reducible (show evOps _ _ _ _ _ _)); first
             | (with_reducible apply go_nil))
           | ((with_reducible (show evG _ _ _ _ _)); first
             | (with_reducible apply go_seq)
             | (with_reducible apply go_region)
             | (with_reducible apply go_block))
           | (with_reducible apply go_kseq)
  refine go_count l.length (fun i => ⟨[(7, .om 0), (15, .int .i64 i), (13, .sl (l.map encPit)), (14, .int .i64 l.length), (1, .clo (.func g) [] []), (2, .clo (.func g') [] [])], [(0, ⟨0, true, (l.take i).map fun x => [.str x.name, .bool true]⟩)], 32, 39⟩) (fun i => True) (entails_eq (nx := 32) (k := 0) (ns := []) (ks := [7, 15, 13, 14, 1, 2]) [(32, 0)] rfl (by simp) (by kernel_rfl)) trivial ?_
  intro i hi _
  by_cases hlt : i < l.length
  · have hnm := hok l[i] (List.getElem_mem _)
    have hf := findR_strN (nm := fun x : Pit => x.name) (take_names hd hlt)
    have hname := k_name l[i].name
    rw [hnm] at hname
    repeat' first
           | (with_reducible apply go_op)
           | (with_reducible apply go_next)
           | ((with_reducible (show evOp _ _ _ _ _ _)); first
             | ((with_reducible (show evOp _ (.move _) _ _ _ _)) ; first | ((with_reducible apply go_mv_int); rfl; rfl) | ((with_reducible apply go_mv_clo); rfl; rfl))
             | ((with_reducible apply go_as))
             | ((with_reducible (show evOp _ (.load _ _) _ _ _ _)) ; first | ((with_reducible apply go_ld_ptr); rfl; rfl; rfl) | ((with_reducible apply go_ld_agg); rfl; rfl; rfl; rfl))
             | (((with_reducible apply go_index_nat); rfl; rfl; (with_reducible rfl); (intro; rfl); rfl; omega; (intro hlt)))
             | (((with_reducible apply go_cmp); rfl; rfl; rfl; rfl))
             | (((with_reducible apply go_st_agg); rfl; rfl; rfl; rfl; rfl; rfl; rfl))
             | (((with_reducible apply go_alloc); rfl; rfl; rfl)))
           | ((with_reducible (show evOps _ _ _ _ _ _)); first
             | (with_reducible apply go_nil))
           | ((with_reducible (show evG _ _ _ _ _)); first
             | (with_reducible apply go_seq)
             | (with_reducible apply go_region)
             | (((with_reducible apply go_cond); rfl) <;> (intro h; simp only [h]; try simp only [decide_eq_true_eq, decide_eq_false_iff_not, Bool.not_eq_true', Bool.not_eq_false', Bool.not_true, Bool.not_false] at h; try exact absurd trivial h))
             | (with_reducible apply go_ret)
             | (with_reducible apply go_skipc)
             | (with_reducible apply go_block)
             | (with_reducible apply go_exit))
           | (with_reducible apply go_kseq)
           | (with_reducible apply go_kblock_exit)
           | (with_reducible apply go_kseq_exit)
           | ((with_reducible apply end_int); rfl)
           | (with_reducible rfl)
    all_goals try exact absurd hlt (by omega)
    refine go_clo_str (d1 := .agg (encPit l[i])) rfl rfl (fun _ _ => rfl) (hn _) rfl ?_
    repeat' first
           | ((with_reducible apply go_lookup); rfl; rfl; rfl; rfl; (exact hf); rfl; rfl)
           | ((with_reducible (show evG _ _ (.region 6 _ _) _ _)); (with_reducible apply go_regionM))
           | ((with_reducible apply goM_mapPut); rfl; rfl; rfl; rfl; rfl; rfl; (exact hf); rfl)
           | (with_reducible apply goM_op)
           | (with_reducible apply goM_next)
           | (with_reducible apply goM_nil)
           | (with_reducible apply go_op)
           | (with_reducible apply go_next)
           | ((with_reducible (show evOp _ _ _ _ _ _)); first
             | ((with_reducible (show evOp _ (.move _) _ _ _ _)) ; first | ((with_reducible apply go_mv_bool); rfl; rfl) | ((with_reducible apply go_mv_str); rfl; rfl) | ((with_reducible apply go_mv_clo); rfl; rfl) | ((with_reducible apply go_mv_om); rfl; rfl))
             | ((with_reducible apply go_as))
             | (((with_reducible apply go_ld_agg); rfl; rfl; rfl; rfl))
             | (((with_reducible apply go_fn_bool); rfl; (exact hname); rfl))
             | (((with_reducible apply go_not); rfl; rfl)))
           | ((with_reducible (show evOps _ _ _ _ _ _)); first
             | (with_reducible apply go_nil))
           | ((with_reducible (show evG _ _ _ _ _)); first
             | (with_reducible apply go_seq)
             | (with_reducible apply go_region)
             | ((with_reducible apply go_cond_f); rfl; rfl)
             | (with_reducible apply go_block))
           | (with_reducible apply go_kseq)
           | (with_reducible apply go_kblock)
    all_goals try exact absurd hlt (by omega)
    refine go_clo_int (d1 := .agg (encPit l[i])) rfl rfl (fun _ _ => rfl) (he _ (List.getElem_mem _)) rfl ?_
    repeat' first
           | (with_reducible apply go_op)
           | (with_reducible apply go_next)
           | ((with_reducible (show evOp _ _ _ _ _ _)); first
             | (((with_reducible apply go_mv_int); rfl; rfl))
             | ((with_reducible apply go_as))
             | ((with_reducible (show evOp _ (.binOp _ _ _ _ _) _ _ _ _)) ; first | ((with_reducible apply go_cmp); rfl; rfl; rfl; rfl) | ((with_reducible apply go_add); rfl; rfl; rfl; omega)))
           | ((with_reducible (show evOps _ _ _ _ _ _)); first
             | (with_reducible apply go_nil))
           | ((with_reducible (show evG _ _ _ _ _)); first
             | (with_reducible apply go_seq)
             | (with_reducible apply go_region)
             | ((with_reducible apply go_cond_f); rfl; rfl)
             | (with_reducible apply go_skipc))
           | (with_reducible apply go_kseq)
           | (with_reducible apply go_kblock)
    all_goals first
      | exact absurd hlt (by omega)
      | (refine ⟨hlt, trivial, ?_⟩
         show Entails _ ⟨[(7, .om 0), (15, .int .i64 (i + 1 : Nat)), (13, .sl (l.map encPit)), (14, .int .i64 l.length), (1, .clo (.func g) [] []), (2, .clo (.func g') [] [])], [(0, ⟨0, true, (l.take (i + 1)).map fun x => [.str x.name, .bool true]⟩)], 32, 39⟩
         rw [List.take_succ_eq_append_getElem hlt, List.map_append]
         exact entails_eq (nx := 32) (k := 0) (ns := []) (ks := [7, 15, 13, 14, 1, 2]) [(0, 0)] rfl (by simp) (by kernel_rfl))
      | trace_state
  · repeat' first
           | (with_reducible apply go_op)
           | (with_reducible apply go_next)
           | ((with_reducible (show evOp _ _ _ _ _ _)); first
             | ((with_reducible (show evOp _ (.move _) _ _ _ _)) ; first | ((with_reducible apply go_mv_int); rfl; rfl) | ((with_reducible apply go_mv_clo); rfl; rfl))
             | ((with_reducible apply go_as))
             | ((with_reducible (show evOp _ (.load _ _) _ _ _ _)) ; first | ((with_reducible apply go_ld_ptr); rfl; rfl; rfl) | ((with_reducible apply go_ld_agg); rfl; rfl; rfl; rfl))
             | (((with_reducible apply go_index_nat); rfl; rfl; (with_reducible rfl); (intro; rfl); rfl; omega; (intro hlt)))
             | (((with_reducible apply go_cmp); rfl; rfl; rfl; rfl))
             | (((with_reducible apply go_st_agg); rfl; rfl; rfl; rfl; rfl; rfl; rfl))
             | (((with_reducible apply go_alloc); rfl; rfl; rfl)))
           | ((with_reducible (show evOps _ _ _ _ _ _)); first
             | (with_reducible apply go_nil))
           | ((with_reducible (show evG _ _ _ _ _)); first
             | (with_reducible apply go_seq)
             | (with_reducible apply go_region)
             | (((with_reducible apply go_cond); rfl) <;> (intro h; simp only [h]; try simp only [decide_eq_true_eq, decide_eq_false_iff_not, Bool.not_eq_true', Bool.not_eq_false', Bool.not_true, Bool.not_false] at h; try exact absurd trivial h))
             | (with_reducible apply go_ret)
             | (with_reducible apply go_skipc)
             | (with_reducible apply go_block)
             | (with_reducible apply go_exit))
           | (with_reducible apply go_kseq)
           | (with_reducible apply go_kblock_exit)
           | (with_reducible apply go_kseq_exit)
           | ((with_reducible apply end_int); rfl)
           | (with_reducible rfl)
    all_goals first
      | exact absurd hlt (by omega)
      | rfl
      | trace_state
theorem k_namedB (l : List Bulk) (hl : l.length < 1000000000000) (g g' : FuncId) (hn : ∀ x, Contract Try.prog g [.agg (encBulk x)] (.ret (.str x.soil))) (he : ∀ x ∈ l, Contract Try.prog g' [.agg (encBulk x)] (.ret (.int .i64 0)))
    (hok : ∀ x ∈ l, nameOK x.soil = true) (hd : l.Pairwise fun x y => x.soil ≠ y.soil) : Contract Try.prog 56 [.sl (l.map encBulk), .clo (.func g) [] [], .clo (.func g') [] []] (.ret (.int .i64 0)) := by
  refine contract_of mix Try.func56 rfl rfl (by rw [Try.ntmps56]; exact Nat.le_of_ble_eq_true rfl) ?_; rw [Try.results56, Try.ntmps56]; simp only [argsE, Nat.reduceAdd]
  repeat' first
           | ((with_reducible (show evG _ _ (.region 1 _ _) _ _)); (with_reducible apply go_regionM))
           | ((with_reducible apply goM_makeMap); rfl)
           | (with_reducible apply goM_op)
           | (with_reducible apply goM_next)
           | (with_reducible apply goM_nil)
           | (with_reducible apply go_op)
           | (with_reducible apply go_next)
           | ((with_reducible (show evOp _ _ _ _ _ _)); first
             | ((with_reducible (show evOp _ (.move _) _ _ _ _)) ; first | ((with_reducible apply go_mv_int); rfl; rfl) | ((with_reducible apply go_mv_sl); rfl; rfl) | ((with_reducible apply go_mv_om); rfl; rfl))
             | ((with_reducible apply go_as))
             | (((with_reducible apply go_len); rfl; rfl)))
           | ((with_reducible (show evOps _ _ _ _ _ _)); first
             | (with_reducible apply go_nil))
           | ((with_reducible (show evG _ _ _ _ _)); first
             | (with_reducible apply go_seq)
             | (with_reducible apply go_region)
             | (with_reducible apply go_block))
           | (with_reducible apply go_kseq)
  refine go_count l.length (fun i => ⟨[(7, .om 0), (15, .int .i64 i), (13, .sl (l.map encBulk)), (14, .int .i64 l.length), (1, .clo (.func g) [] []), (2, .clo (.func g') [] [])], [(0, ⟨0, true, (l.take i).map fun x => [.str x.soil, .bool true]⟩)], 32, 39⟩) (fun i => True) (entails_eq (nx := 32) (k := 0) (ns := []) (ks := [7, 15, 13, 14, 1, 2]) [(32, 0)] rfl (by simp) (by kernel_rfl)) trivial ?_
  intro i hi _
  by_cases hlt : i < l.length
  · have hnm := hok l[i] (List.getElem_mem _)
    have hf := findR_strN (nm := fun x : Bulk => x.soil) (take_names hd hlt)
    have hname := k_name l[i].soil
    rw [hnm] at hname
    repeat' first
           | (with_reducible apply go_op)
           | (with_reducible apply go_next)
           | ((with_reducible (show evOp _ _ _ _ _ _)); first
             | ((with_reducible (show evOp _ (.move _) _ _ _ _)) ; first | ((with_reducible apply go_mv_int); rfl; rfl) | ((with_reducible apply go_mv_clo); rfl; rfl))
             | ((with_reducible apply go_as))
             | ((with_reducible (show evOp _ (.load _ _) _ _ _ _)) ; first | ((with_reducible apply go_ld_ptr); rfl; rfl; rfl) | ((with_reducible apply go_ld_agg); rfl; rfl; rfl; rfl))
             | (((with_reducible apply go_index_nat); rfl; rfl; (with_reducible rfl); (intro; rfl); rfl; omega; (intro hlt)))
             | (((with_reducible apply go_cmp); rfl; rfl; rfl; rfl))
             | (((with_reducible apply go_st_agg); rfl; rfl; rfl; rfl; rfl; rfl; rfl))
             | (((with_reducible apply go_alloc); rfl; rfl; rfl)))
           | ((with_reducible (show evOps _ _ _ _ _ _)); first
             | (with_reducible apply go_nil))
           | ((with_reducible (show evG _ _ _ _ _)); first
             | (with_reducible apply go_seq)
             | (with_reducible apply go_region)
             | (((with_reducible apply go_cond); rfl) <;> (intro h; simp only [h]; try simp only [decide_eq_true_eq, decide_eq_false_iff_not, Bool.not_eq_true', Bool.not_eq_false', Bool.not_true, Bool.not_false] at h; try exact absurd trivial h))
             | (with_reducible apply go_ret)
             | (with_reducible apply go_skipc)
             | (with_reducible apply go_block)
             | (with_reducible apply go_exit))
           | (with_reducible apply go_kseq)
           | (with_reducible apply go_kblock_exit)
           | (with_reducible apply go_kseq_exit)
           | ((with_reducible apply end_int); rfl)
           | (with_reducible rfl)
    all_goals try exact absurd hlt (by omega)
    refine go_clo_str (d1 := .agg (encBulk l[i])) rfl rfl (fun _ _ => rfl) (hn _) rfl ?_
    repeat' first
           | ((with_reducible apply go_lookup); rfl; rfl; rfl; rfl; (exact hf); rfl; rfl)
           | ((with_reducible (show evG _ _ (.region 6 _ _) _ _)); (with_reducible apply go_regionM))
           | ((with_reducible apply goM_mapPut); rfl; rfl; rfl; rfl; rfl; rfl; (exact hf); rfl)
           | (with_reducible apply goM_op)
           | (with_reducible apply goM_next)
           | (with_reducible apply goM_nil)
           | (with_reducible apply go_op)
           | (with_reducible apply go_next)
           | ((with_reducible (show evOp _ _ _ _ _ _)); first
             | ((with_reducible (show evOp _ (.move _) _ _ _ _)) ; first | ((with_reducible apply go_mv_bool); rfl; rfl) | ((with_reducible apply go_mv_str); rfl; rfl) | ((with_reducible apply go_mv_clo); rfl; rfl) | ((with_reducible apply go_mv_om); rfl; rfl))
             | ((with_reducible apply go_as))
             | (((with_reducible apply go_ld_agg); rfl; rfl; rfl; rfl))
             | (((with_reducible apply go_fn_bool); rfl; (exact hname); rfl))
             | (((with_reducible apply go_not); rfl; rfl)))
           | ((with_reducible (show evOps _ _ _ _ _ _)); first
             | (with_reducible apply go_nil))
           | ((with_reducible (show evG _ _ _ _ _)); first
             | (with_reducible apply go_seq)
             | (with_reducible apply go_region)
             | ((with_reducible apply go_cond_f); rfl; rfl)
             | (with_reducible apply go_block))
           | (with_reducible apply go_kseq)
           | (with_reducible apply go_kblock)
    all_goals try exact absurd hlt (by omega)
    refine go_clo_int (d1 := .agg (encBulk l[i])) rfl rfl (fun _ _ => rfl) (he _ (List.getElem_mem _)) rfl ?_
    repeat' first
           | (with_reducible apply go_op)
           | (with_reducible apply go_next)
           | ((with_reducible (show evOp _ _ _ _ _ _)); first
             | (((with_reducible apply go_mv_int); rfl; rfl))
             | ((with_reducible apply go_as))
             | ((with_reducible (show evOp _ (.binOp _ _ _ _ _) _ _ _ _)) ; first | ((with_reducible apply go_cmp); rfl; rfl; rfl; rfl) | ((with_reducible apply go_add); rfl; rfl; rfl; omega)))
           | ((with_reducible (show evOps _ _ _ _ _ _)); first
             | (with_reducible apply go_nil))
           | ((with_reducible (show evG _ _ _ _ _)); first
             | (with_reducible apply go_seq)
             | (with_reducible apply go_region)
             | ((with_reducible apply go_cond_f); rfl; rfl)
             | (with_reducible apply go_skipc))
           | (with_reducible apply go_kseq)
           | (with_reducible apply go_kblock)
    all_goals first
      | exact absurd hlt (by omega)
      | (refine ⟨hlt, trivial, ?_⟩
         show Entails _ ⟨[(7, .om 0), (15, .int .i64 (i + 1 : Nat)), (13, .sl (l.map encBulk)), (14, .int .i64 l.length), (1, .clo (.func g) [] []), (2, .clo (.func g') [] [])], [(0, ⟨0, true, (l.take (i + 1)).map fun x => [.str x.soil, .bool true]⟩)], 32, 39⟩
         rw [List.take_succ_eq_append_getElem hlt, List.map_append]
         exact entails_eq (nx := 32) (k := 0) (ns := []) (ks := [7, 15, 13, 14, 1, 2]) [(0, 0)] rfl (by simp) (by kernel_rfl))
      | trace_state
  · repeat' first
           | (with_reducible apply go_op)
           | (with_reducible apply go_next)
           | ((with_reducible (show evOp _ _ _ _ _ _)); first
             | ((with_reducible (show evOp _ (.move _) _ _ _ _)) ; first | ((with_reducible apply go_mv_int); rfl; rfl) | ((with_reducible apply go_mv_clo); rfl; rfl))
             | ((with_reducible apply go_as))
             | ((with_reducible (show evOp _ (.load _ _) _ _ _ _)) ; first | ((with_reducible apply go_ld_ptr); rfl; rfl; rfl) | ((with_reducible apply go_ld_agg); rfl; rfl; rfl; rfl))
             | (((with_reducible apply go_index_nat); rfl; rfl; (with_reducible rfl); (intro; rfl); rfl; omega; (intro hlt)))
             | (((with_reducible apply go_cmp); rfl; rfl; rfl; rfl))
             | (((with_reducible apply go_st_agg); rfl; rfl; rfl; rfl; rfl; rfl; rfl))
             | (((with_reducible apply go_alloc); rfl; rfl; rfl)))
           | ((with_reducible (show evOps _ _ _ _ _ _)); first
             | (with_reducible apply go_nil))
           | ((with_reducible (show evG _ _ _ _ _)); first
             | (with_reducible apply go_seq)
             | (with_reducible apply go_region)
             | (((with_reducible apply go_cond); rfl) <;> (intro h; simp only [h]; try simp only [decide_eq_true_eq, decide_eq_false_iff_not, Bool.not_eq_true', Bool.not_eq_false', Bool.not_true, Bool.not_false] at h; try exact absurd trivial h))
             | (with_reducible apply go_ret)
             | (with_reducible apply go_skipc)
             | (with_reducible apply go_block)
             | (with_reducible apply go_exit))
           | (with_reducible apply go_kseq)
           | (with_reducible apply go_kblock_exit)
           | (with_reducible apply go_kseq_exit)
           | ((with_reducible apply end_int); rfl)
           | (with_reducible rfl)
    all_goals first
      | exact absurd hlt (by omega)
      | rfl
      | trace_state
theorem k_checkDeposits (s : Yard) (hs : OkYard s) : Contract Try.prog 60 [.agg (encYard s)] (.ret (.int .i64 0)) := by
  have hd0 : ∀ d ∈ s.deps, depOK d = true := fun d hd => (hs.dok d hd).1
  have h200 := hs.d200
  have h8 := hs.p8
  refine contract_of mix Try.func60 rfl rfl (by rw [Try.ntmps60]; exact Nat.le_of_ble_eq_true rfl) ?_; rw [Try.results60, Try.ntmps60]; simp only [argsE, Nat.reduceAdd]
  repeat' first
           | ((with_reducible (show evG _ _ (.region 3 _ _) _ _)); (with_reducible apply go_regionM))
           | ((with_reducible apply goM_makeMap); rfl)
           | (with_reducible apply goM_op)
           | (with_reducible apply goM_next)
           | (with_reducible apply goM_nil)
           | (with_reducible apply go_op)
           | (with_reducible apply go_next)
           | ((with_reducible (show evOp _ _ _ _ _ _)); first
             | ((with_reducible (show evOp _ (.move _) _ _ _ _)) ; first | ((with_reducible apply go_mv_int); rfl; rfl) | ((with_reducible apply go_mv_om); rfl; rfl))
             | ((with_reducible apply go_as))
             | (((with_reducible apply go_load_own); rfl; rfl; rfl; rfl))
             | (((with_reducible apply go_fieldAddr_own); rfl; rfl; rfl))
             | (((with_reducible apply go_cmp); rfl; rfl; rfl; rfl))
             | (((with_reducible apply go_len); rfl; rfl))
             | (((with_reducible apply go_bx_agg); rfl; rfl; (exact Nat.le_of_ble_eq_true rfl); rfl; rfl)))
           | ((with_reducible (show evOps _ _ _ _ _ _)); first
             | (with_reducible apply go_nil))
           | ((with_reducible (show evG _ _ _ _ _)); first
             | (with_reducible apply go_seq)
             | (with_reducible apply go_region)
             | (((with_reducible apply go_cond); rfl) <;> (intro h; simp only [h]; try simp only [decide_eq_true_eq, decide_eq_false_iff_not, Bool.not_eq_true', Bool.not_eq_false', Bool.not_true, Bool.not_false] at h; try exact absurd trivial h))
             | (with_reducible apply go_ret)
             | (with_reducible apply go_skipc)
             | (with_reducible apply go_block))
           | (with_reducible apply go_kseq)
           | (with_reducible apply go_kseq_ret)
           | ((with_reducible apply end_int); rfl)
  all_goals try (exfalso; omega)
  refine go_count s.deps.length (fun i => ⟨[(3, .om 0), (16, .int .i64 i), (14, .sl (s.deps.map encDep)), (15, .int .i64 s.deps.length), (1, .op 1 0 0)], [(0, ⟨0, true, (s.deps.take i).map fun x => [.int .i64 x.batch, .bool true]⟩), (1, ⟨4, true, [encYard s]⟩)], 32, 57⟩) (fun i => True) (entails_eq (nx := 32) (k := 0) (ns := []) (ks := [3, 16, 14, 15, 1]) [(192, 0), (0, 1)] rfl (by simp) (by kernel_rfl)) trivial ?_
  intro i hi _
  by_cases hlt : i < s.deps.length
  · have hdi := hs.dok s.deps[i] (List.getElem_mem _)
    have hv := of_decide_eq_true hdi.1
    have hf := findR_intN (nm := fun x : Dep => x.batch) (take_names hs.dd hlt)
    have hpit := k_pitOf s s.deps[i].pit (by omega)
    repeat' first
           | ((with_reducible apply go_lookup); rfl; rfl; rfl; rfl; (exact hf); rfl; rfl)
           | ((with_reducible (show evG _ _ (.region 15 _ _) _ _)); (with_reducible apply go_regionM))
           | ((with_reducible apply goM_mapPut); rfl; rfl; rfl; rfl; rfl; rfl; (exact hf); rfl)
           | (with_reducible apply goM_op)
           | (with_reducible apply goM_next)
           | (with_reducible apply goM_nil)
           | (with_reducible apply go_op)
           | (with_reducible apply go_next)
           | ((with_reducible (show evOp _ _ _ _ _ _)); first
             | ((with_reducible (show evOp _ (.move _) _ _ _ _)) ; first | ((with_reducible apply go_mv_int); rfl; rfl) | ((with_reducible apply go_mv_bool); rfl; rfl) | ((with_reducible apply go_mv_om); rfl; rfl))
             | ((with_reducible apply go_as))
             | ((with_reducible (show evOp _ (.load _ _) _ _ _ _)) ; first | ((with_reducible apply go_ld_ptr); rfl; rfl; rfl) | ((with_reducible apply go_ld_agg); rfl; rfl; rfl; rfl) | ((with_reducible apply go_load_own); rfl; rfl; rfl; rfl))
             | (((with_reducible apply go_fieldAddr_own); rfl; rfl; rfl))
             | (((with_reducible apply go_index_nat); rfl; rfl; (with_reducible rfl); (intro; rfl); rfl; omega; (intro hlt)))
             | ((with_reducible (show evOp _ (.binOp _ _ _ _ _) _ _ _ _)) ; first | ((with_reducible apply go_cmp); rfl; rfl; rfl; rfl) | ((with_reducible apply go_add); rfl; rfl; rfl; omega))
             | ((with_reducible (show evOp _ (.call _) _ _ _ _)) ; first | ((with_reducible apply go_len); rfl; rfl) | ((with_reducible apply go_fn_bool); rfl; (exact k_within _ _ _); rfl) | ((with_reducible apply go_fn_int); rfl; (exact hpit); rfl))
             | (((with_reducible apply go_st_agg); rfl; rfl; rfl; rfl; rfl; rfl; rfl))
             | (((with_reducible apply go_not); rfl; rfl))
             | (((with_reducible apply go_alloc); rfl; rfl; rfl)))
           | ((with_reducible (show evOps _ _ _ _ _ _)); first
             | (with_reducible apply go_nil))
           | ((with_reducible (show evG _ _ _ _ _)); first
             | (with_reducible apply go_seq)
             | (with_reducible apply go_region)
             | ((with_reducible apply go_cond_f); rfl; rfl)
             | (((with_reducible apply go_cond); rfl) <;> (intro h; simp only [h]; try simp only [decide_eq_true_eq, decide_eq_false_iff_not, Bool.not_eq_true', Bool.not_eq_false', Bool.not_true, Bool.not_false] at h; try exact absurd trivial h))
             | (with_reducible apply go_ret)
             | (with_reducible apply go_skipc)
             | (with_reducible apply go_block)
             | (with_reducible apply go_exit))
           | (with_reducible apply go_kseq)
           | (with_reducible apply go_kseq_ret)
           | (with_reducible apply go_kblock)
           | (with_reducible apply go_kblock_ret)
           | (with_reducible apply go_kblock_exit)
           | (with_reducible apply go_kseq_exit)
           | ((with_reducible apply end_int); rfl)
    all_goals first
      | exact absurd hlt (by omega)
      | (exfalso; omega)
      | (refine ⟨hlt, trivial, ?_⟩
         show Entails _ ⟨[(3, .om 0), (16, .int .i64 (i + 1 : Nat)), (14, .sl (s.deps.map encDep)), (15, .int .i64 s.deps.length), (1, .op 1 0 0)], [(0, ⟨0, true, (s.deps.take (i + 1)).map fun x => [.int .i64 x.batch, .bool true]⟩), (1, ⟨4, true, [encYard s]⟩)], 32, 57⟩
         rw [List.take_succ_eq_append_getElem hlt, List.map_append]
         exact entails_eq (nx := 32) (k := 0) (ns := []) (ks := [3, 16, 14, 15, 1]) [(0, 0), (1, 1)] rfl (by simp) (by kernel_rfl))
      | trace_state
  · repeat' first
           | (with_reducible apply go_op)
           | (with_reducible apply go_next)
           | ((with_reducible (show evOp _ _ _ _ _ _)); first
             | (((with_reducible apply go_mv_int); rfl; rfl))
             | ((with_reducible (show evOp _ (.load _ _) _ _ _ _)) ; first | ((with_reducible apply go_ld_ptr); rfl; rfl; rfl) | ((with_reducible apply go_load_own); rfl; rfl; rfl; rfl))
             | (((with_reducible apply go_fieldAddr_own); rfl; rfl; rfl))
             | (((with_reducible apply go_index_nat); rfl; rfl; (with_reducible rfl); (intro; rfl); rfl; omega; (intro hlt)))
             | (((with_reducible apply go_cmp); rfl; rfl; rfl; rfl))
             | (((with_reducible apply go_len); rfl; rfl))
             | (((with_reducible apply go_st_agg); rfl; rfl; rfl; rfl; rfl; rfl; rfl))
             | (((with_reducible apply go_alloc); rfl; rfl; rfl)))
           | ((with_reducible (show evOps _ _ _ _ _ _)); first
             | (with_reducible apply go_nil))
           | ((with_reducible (show evG _ _ _ _ _)); first
             | (with_reducible apply go_seq)
             | (with_reducible apply go_region)
             | (((with_reducible apply go_cond); rfl) <;> (intro h; simp only [h]; try simp only [decide_eq_true_eq, decide_eq_false_iff_not, Bool.not_eq_true', Bool.not_eq_false', Bool.not_true, Bool.not_false] at h; try exact absurd trivial h))
             | (with_reducible apply go_skipc)
             | (with_reducible apply go_block)
             | (with_reducible apply go_exit))
           | (with_reducible apply go_kseq)
           | (with_reducible apply go_kblock_exit)
           | (with_reducible apply go_kseq_exit)
    all_goals try exact absurd hlt (by omega)
    refine go_count s.pits.length (fun i => ⟨[(48, .int .i64 i), (46, .sl (s.pits.map encPit)), (47, .int .i64 s.pits.length), (1, .op 0 0 0)], [(0, ⟨4, true, [encYard s]⟩)], 32, 57⟩) (fun i => True) (entails_eq (nx := 32) (k := 0) (ns := []) (ks := [48, 46, 47, 1]) [(1, 0)] rfl (by simp) (by kernel_rfl)) trivial ?_
    intro j hj _
    by_cases hlj : j < s.pits.length
    · have hp := hs.pok s.pits[j] (List.getElem_mem _)
      have hr := hs.room s.pits[j] (List.getElem_mem _)
      have hroom := k_room s s.pits[j] hp.1 h200 hd0
      repeat' first
           | (with_reducible apply go_op)
           | (with_reducible apply go_next)
           | ((with_reducible (show evOp _ _ _ _ _ _)); first
             | (((with_reducible apply go_mv_int); rfl; rfl))
             | ((with_reducible apply go_as))
             | ((with_reducible (show evOp _ (.load _ _) _ _ _ _)) ; first | ((with_reducible apply go_ld_ptr); rfl; rfl; rfl) | ((with_reducible apply go_ld_agg); rfl; rfl; rfl; rfl))
             | (((with_reducible apply go_index_nat); rfl; rfl; (with_reducible rfl); (intro; rfl); rfl; omega; (intro hlt)))
             | ((with_reducible (show evOp _ (.binOp _ _ _ _ _) _ _ _ _)) ; first | ((with_reducible apply go_cmp); rfl; rfl; rfl; rfl) | ((with_reducible apply go_add); rfl; rfl; rfl; omega))
             | (((with_reducible apply go_fn_int); rfl; (exact hroom); rfl))
             | (((with_reducible apply go_st_agg); rfl; rfl; rfl; rfl; rfl; rfl; rfl))
             | (((with_reducible apply go_alloc); rfl; rfl; rfl)))
           | ((with_reducible (show evOps _ _ _ _ _ _)); first
             | (with_reducible apply go_nil))
           | ((with_reducible (show evG _ _ _ _ _)); first
             | (with_reducible apply go_seq)
             | (with_reducible apply go_region)
             | (((with_reducible apply go_cond); rfl) <;> (intro h; simp only [h]; try simp only [decide_eq_true_eq, decide_eq_false_iff_not, Bool.not_eq_true', Bool.not_eq_false', Bool.not_true, Bool.not_false] at h; try exact absurd trivial h))
             | (with_reducible apply go_ret)
             | (with_reducible apply go_skipc)
             | (with_reducible apply go_block)
             | (with_reducible apply go_exit))
           | (with_reducible apply go_kseq)
           | (with_reducible apply go_kseq_ret)
           | (with_reducible apply go_kblock)
           | (with_reducible apply go_kblock_ret)
           | (with_reducible apply go_kblock_exit)
           | (with_reducible apply go_kseq_exit)
           | ((with_reducible apply end_int); rfl)
           | (with_reducible rfl)
      all_goals first
        | exact absurd hlj (by omega)
        | (exfalso; omega)
        | exact ⟨hlj, trivial, entails_eq (nx := 32) (k := 0) (ns := []) (ks := [48, 46, 47, 1]) [(0, 0)] rfl (by simp) (by kernel_rfl)⟩
        | trace_state
    · repeat' first
           | (with_reducible apply go_op)
           | (with_reducible apply go_next)
           | ((with_reducible (show evOp _ _ _ _ _ _)); first
             | (((with_reducible apply go_mv_int); rfl; rfl))
             | ((with_reducible apply go_as))
             | ((with_reducible (show evOp _ (.load _ _) _ _ _ _)) ; first | ((with_reducible apply go_ld_ptr); rfl; rfl; rfl) | ((with_reducible apply go_ld_agg); rfl; rfl; rfl; rfl))
             | (((with_reducible apply go_index_nat); rfl; rfl; (with_reducible rfl); (intro; rfl); rfl; omega; (intro hlt)))
             | (((with_reducible apply go_cmp); rfl; rfl; rfl; rfl))
             | (((with_reducible apply go_st_agg); rfl; rfl; rfl; rfl; rfl; rfl; rfl))
             | (((with_reducible apply go_alloc); rfl; rfl; rfl)))
           | ((with_reducible (show evOps _ _ _ _ _ _)); first
             | (with_reducible apply go_nil))
           | ((with_reducible (show evG _ _ _ _ _)); first
             | (with_reducible apply go_seq)
             | (with_reducible apply go_region)
             | (((with_reducible apply go_cond); rfl) <;> (intro h; simp only [h]; try simp only [decide_eq_true_eq, decide_eq_false_iff_not, Bool.not_eq_true', Bool.not_eq_false', Bool.not_true, Bool.not_false] at h; try exact absurd trivial h))
             | (with_reducible apply go_ret)
             | (with_reducible apply go_skipc)
             | (with_reducible apply go_block)
             | (with_reducible apply go_exit))
           | (with_reducible apply go_kseq)
           | (with_reducible apply go_kblock_exit)
           | (with_reducible apply go_kseq_exit)
           | ((with_reducible apply end_int); rfl)
           | (with_reducible rfl)
      all_goals first
        | exact absurd hlj (by omega)
        | rfl
        | trace_state
end Go.Pv.Soil

open Go Go.Proofs Go.Pv
set_option maxHeartbeats 4000000
set_option maxRecDepth 100000
set_option linter.unusedSimpArgs false
set_option linter.unusedVariables false
namespace Go.Pv.Soil
theorem k_chk1 (p : Pit) : Contract Try.prog 54 [.agg (encPit p)] (.ret (.str p.name)) := by
  refine contract_of mix Try.func54 rfl rfl (by rw [Try.ntmps54]; exact Nat.le_of_ble_eq_true rfl) ?_; rw [Try.results54, Try.ntmps54]; simp only [argsE, Nat.reduceAdd]
  repeat' first
           | (with_reducible apply go_op)
           | (with_reducible apply go_next)
           | ((with_reducible (show evOp _ _ _ _ _ _)); first
             | (((with_reducible apply go_mv_str); rfl; rfl))
             | ((with_reducible apply go_as))
             | (((with_reducible apply go_load_own); rfl; rfl; rfl; rfl))
             | (((with_reducible apply go_fieldAddr_own); rfl; rfl; rfl))
             | (((with_reducible apply go_bx_agg); rfl; rfl; (exact Nat.le_of_ble_eq_true rfl); rfl; rfl)))
           | ((with_reducible (show evOps _ _ _ _ _ _)); first
             | (with_reducible apply go_nil))
           | ((with_reducible (show evG _ _ _ _ _)); first
             | (with_reducible apply go_seq)
             | (with_reducible apply go_region)
             | (with_reducible apply go_ret))
           | (with_reducible apply go_kseq)
           | ((with_reducible apply end_str); rfl)
           | (with_reducible rfl)
theorem k_chk2 (p : Bulk) : Contract Try.prog 57 [.agg (encBulk p)] (.ret (.str p.soil)) := by
  refine contract_of mix Try.func57 rfl rfl (by rw [Try.ntmps57]; exact Nat.le_of_ble_eq_true rfl) ?_; rw [Try.results57, Try.ntmps57]; simp only [argsE, Nat.reduceAdd]
  repeat' first
           | (with_reducible apply go_op)
           | (with_reducible apply go_next)
           | ((with_reducible (show evOp _ _ _ _ _ _)); first
             | (((with_reducible apply go_mv_str); rfl; rfl))
             | ((with_reducible apply go_as))
             | (((with_reducible apply go_load_own); rfl; rfl; rfl; rfl))
             | (((with_reducible apply go_fieldAddr_own); rfl; rfl; rfl))
             | (((with_reducible apply go_bx_agg); rfl; rfl; (exact Nat.le_of_ble_eq_true rfl); rfl; rfl)))
           | ((with_reducible (show evOps _ _ _ _ _ _)); first
             | (with_reducible apply go_nil))
           | ((with_reducible (show evG _ _ _ _ _)); first
             | (with_reducible apply go_seq)
             | (with_reducible apply go_region)
             | (with_reducible apply go_ret))
           | (with_reducible apply go_kseq)
           | ((with_reducible apply end_str); rfl)
           | (with_reducible rfl)
theorem k_Check (s : Yard) (hs : OkYard s) : Contract Try.prog 38 [.agg (encYard s)] (.ret (.int .i64 0)) := by
  have h8 := hs.p8
  have h20 := hs.b20
  have hcl := hs.cl
  have hn1 := k_namedP s.pits (by omega) 54 55 k_chk1 (fun x hx => k_checkPit x (hs.pok x hx).1 (hs.pok x hx).2.1 (hs.pok x hx).2.2.2) (fun x hx => (hs.pok x hx).2.2.1) hs.pd
  have hn2 := k_namedB s.bulk (by omega) 57 58 k_chk2 (fun x hx => k_checkFactor x (hs.bok x hx).1) (fun x hx => (hs.bok x hx).2) hs.bd
  have hd := k_checkDeposits s hs
  refine contract_of mix Try.func38 rfl rfl (by rw [Try.ntmps38]; exact Nat.le_of_ble_eq_true rfl) ?_; rw [Try.results38, Try.ntmps38]; simp only [argsE, Nat.reduceAdd]
  repeat' first
           | (with_reducible apply go_op)
           | (with_reducible apply go_next)
           | ((with_reducible (show evOp _ _ _ _ _ _)); first
             | (((with_reducible apply go_mv_int); rfl; rfl))
             | ((with_reducible apply go_as))
             | (((with_reducible apply go_load_own); rfl; rfl; rfl; rfl))
             | (((with_reducible apply go_fieldAddr_own); rfl; rfl; rfl))
             | (((with_reducible apply go_cmp); rfl; rfl; rfl; rfl))
             | ((with_reducible (show evOp _ (.call _) _ _ _ _)) ; first | ((with_reducible apply go_len); rfl; rfl) | ((with_reducible apply go_fn_int); rfl; (exact hn1); rfl) | ((with_reducible apply go_fn_int); rfl; (exact hn2); rfl))
             | (((with_reducible apply go_bx_agg); rfl; rfl; (exact Nat.le_of_ble_eq_true rfl); rfl; rfl)))
           | ((with_reducible (show evOps _ _ _ _ _ _)); first
             | (with_reducible apply go_nil))
           | ((with_reducible (show evG _ _ _ _ _)); first
             | (with_reducible apply go_seq)
             | (with_reducible apply go_region)
             | ((with_reducible apply go_cond_f); rfl; rfl)
             | (((with_reducible apply go_cond); rfl) <;> (intro h; simp only [h]; try simp only [decide_eq_true_eq, decide_eq_false_iff_not, Bool.not_eq_true', Bool.not_eq_false', Bool.not_true, Bool.not_false] at h; try exact absurd trivial h))
             | (with_reducible apply go_ret)
             | (with_reducible apply go_skipc)
             | (with_reducible apply go_block))
           | (with_reducible apply go_kseq)
           | (with_reducible apply go_kseq_ret)
           | ((with_reducible apply end_int); rfl)
  all_goals try (exfalso; omega)
  refine go_count s.carry.length (fun i => ⟨[(37, .int .i64 i), (35, .sl (s.carry.map encI)), (36, .int .i64 s.carry.length), (1, .op 0 0 0)], [(0, ⟨4, true, [encYard s]⟩)], 32, 56⟩) (fun i => True) (entails_eq (nx := 32) (k := 0) (ns := []) (ks := [37, 35, 36, 1]) [(0, 0)] rfl (by simp) (by kernel_rfl)) trivial ?_
  intro i hi _
  by_cases hlt : i < s.carry.length
  · have hci := hs.cok i hlt (by omega)
    have hbi := of_decide_eq_true (hs.bok (s.bulk[i]'(by omega)) (List.getElem_mem _)).1
    repeat' first
           | (with_reducible apply go_op)
           | (with_reducible apply go_next)
           | ((with_reducible (show evOp _ _ _ _ _ _)); first
             | (((with_reducible apply go_mv_int); rfl; rfl))
             | ((with_reducible apply go_as))
             | ((with_reducible (show evOp _ (.load _ _) _ _ _ _)) ; first | ((with_reducible apply go_ld_agg); rfl; rfl; rfl; rfl) | ((with_reducible apply go_load); rfl; rfl; rfl) | ((with_reducible apply go_load_own); rfl; rfl; rfl; rfl))
             | ((with_reducible (show evOp _ (.fieldAddr _ _ _) _ _ _ _)) ; first | ((with_reducible apply go_fieldAddr); rfl; rfl) | ((with_reducible apply go_fieldAddr_own); rfl; rfl; rfl))
             | (((with_reducible apply go_index_nat); rfl; rfl; (with_reducible rfl); (intro; rfl); rfl; omega; (intro hlt)))
             | ((with_reducible (show evOp _ (.binOp _ _ _ _ _) _ _ _ _)) ; first | ((with_reducible apply go_cmp); rfl; rfl; rfl; rfl) | ((with_reducible apply go_add); rfl; rfl; rfl; omega) | ((with_reducible apply go_sub); rfl; rfl; rfl; omega))
             | (((with_reducible apply go_fn_bool); rfl; (exact k_within _ _ _); rfl))
             | (((with_reducible apply go_not); rfl; rfl)))
           | ((with_reducible (show evOps _ _ _ _ _ _)); first
             | (with_reducible apply go_nil))
           | ((with_reducible (show evG _ _ _ _ _)); first
             | (with_reducible apply go_seq)
             | (with_reducible apply go_region)
             | (((with_reducible apply go_cond); rfl) <;> (intro h; simp only [h]; try simp only [decide_eq_true_eq, decide_eq_false_iff_not, Bool.not_eq_true', Bool.not_eq_false', Bool.not_true, Bool.not_false] at h; try exact absurd trivial h))
             | (with_reducible apply go_ret)
             | (with_reducible apply go_skipc)
             | (with_reducible apply go_block)
             | (with_reducible apply go_exit))
           | (with_reducible apply go_kseq)
           | (with_reducible apply go_kseq_ret)
           | (with_reducible apply go_kblock)
           | (with_reducible apply go_kblock_ret)
           | (with_reducible apply go_kblock_exit)
           | (with_reducible apply go_kseq_exit)
           | ((with_reducible apply end_int); rfl)
    all_goals first
      | exact absurd hlt (by omega)
      | (exfalso; omega)
      | exact ⟨by omega, trivial, entails_eq (nx := 32) (k := 0) (ns := []) (ks := [37, 35, 36, 1]) [(0, 0)] rfl (by simp) (by kernel_rfl)⟩
      | trace_state
  · repeat' first
           | (with_reducible apply go_op)
           | (with_reducible apply go_next)
           | ((with_reducible (show evOp _ _ _ _ _ _)); first
             | (((with_reducible apply go_mv_int); rfl; rfl))
             | ((with_reducible apply go_as))
             | ((with_reducible (show evOp _ (.load _ _) _ _ _ _)) ; first | ((with_reducible apply go_ld_agg); rfl; rfl; rfl; rfl) | ((with_reducible apply go_load); rfl; rfl; rfl) | ((with_reducible apply go_load_own); rfl; rfl; rfl; rfl))
             | ((with_reducible (show evOp _ (.fieldAddr _ _ _) _ _ _ _)) ; first | ((with_reducible apply go_fieldAddr); rfl; rfl) | ((with_reducible apply go_fieldAddr_own); rfl; rfl; rfl))
             | (((with_reducible apply go_index_nat); rfl; rfl; (with_reducible rfl); (intro; rfl); rfl; omega; (intro hlt)))
             | ((with_reducible (show evOp _ (.binOp _ _ _ _ _) _ _ _ _)) ; first | ((with_reducible apply go_cmp); rfl; rfl; rfl; rfl) | ((with_reducible apply go_sub); rfl; rfl; rfl; omega))
             | (((with_reducible apply go_fn_int); rfl; (exact hd); rfl)))
           | ((with_reducible (show evOps _ _ _ _ _ _)); first
             | (with_reducible apply go_nil))
           | ((with_reducible (show evG _ _ _ _ _)); first
             | (with_reducible apply go_seq)
             | (with_reducible apply go_region)
             | (((with_reducible apply go_cond); rfl) <;> (intro h; simp only [h]; try simp only [decide_eq_true_eq, decide_eq_false_iff_not, Bool.not_eq_true', Bool.not_eq_false', Bool.not_true, Bool.not_false] at h; try exact absurd trivial h))
             | (with_reducible apply go_ret)
             | (with_reducible apply go_skipc)
             | (with_reducible apply go_block)
             | (with_reducible apply go_exit))
           | (with_reducible apply go_kseq)
           | (with_reducible apply go_kblock_exit)
           | (with_reducible apply go_kseq_exit)
           | ((with_reducible apply end_int); rfl)
           | (with_reducible rfl)
    all_goals first
      | exact absurd hlt (by omega)
      | rfl
      | trace_state
/-- What is so of a batch that is one for a yard. -/
structure OkBatch (s : Yard) (b : Batch) : Prop where
  num : 1 ≤ b.number ∧ b.number ≤ 1000000
  bed : 0 ≤ b.bed ∧ b.bed ≤ 1000000000000
  over : 0 ≤ b.over ∧ b.over ≤ b.bed
  soil : 0 ≤ bulkI s b.soil
  cls : 0 ≤ b.cls ∧ b.cls ≤ 9
theorem k_checkBatch (s : Yard) (b : Batch) (h20 : s.bulk.length ≤ 20) (hb : OkBatch s b) : Contract Try.prog 39 [.agg (encYard s), .agg (encBatch b)] (.ret (.int .i64 0)) := by
  have hf := k_factorOf s b.soil (by omega)
  have h1 := hb.num
  have h2 := hb.bed
  have h3 := hb.over
  have h4 := hb.soil
  have h5 := hb.cls
  refine contract_of mix Try.func39 rfl rfl (by rw [Try.ntmps39]; exact Nat.le_of_ble_eq_true rfl) ?_; rw [Try.results39, Try.ntmps39]; simp only [argsE, Nat.reduceAdd]
  repeat' first
           | (with_reducible apply go_op)
           | (with_reducible apply go_next)
           | ((with_reducible (show evOp _ _ _ _ _ _)); first
             | ((with_reducible (show evOp _ (.move _) _ _ _ _)) ; first | ((with_reducible apply go_mv_int); rfl; rfl) | ((with_reducible apply go_mv_bool); rfl; rfl))
             | ((with_reducible apply go_as))
             | ((with_reducible (show evOp _ (.load _ _) _ _ _ _)) ; first | ((with_reducible apply go_ld_agg); rfl; rfl; rfl; rfl) | ((with_reducible apply go_load_own); rfl; rfl; rfl; rfl))
             | (((with_reducible apply go_fieldAddr_own); rfl; rfl; rfl))
             | (((with_reducible apply go_cmp); rfl; rfl; rfl; rfl))
             | ((with_reducible (show evOp _ (.call _) _ _ _ _)) ; first | ((with_reducible apply go_fn_bool); rfl; (exact k_within _ _ _); rfl) | ((with_reducible apply go_fn_int); rfl; (exact hf); rfl))
             | (((with_reducible apply go_not); rfl; rfl))
             | (((with_reducible apply go_pick); rfl; rfl; rfl))
             | (((with_reducible apply go_bx_agg); rfl; rfl; (exact Nat.le_of_ble_eq_true rfl); rfl; rfl)))
           | ((with_reducible (show evOps _ _ _ _ _ _)); first
             | (with_reducible apply go_nil)
             | ((with_reducible apply go_run); rfl; rfl)
             | ((with_reducible apply go_pass); rfl; rfl; rfl)
             | (((with_reducible apply go_guard); rfl) <;> (intro h; simp only [h, Bool.not_true, Bool.not_false]; (try with_reducible (refine ⟨rfl, ?_⟩)); try simp only [decide_eq_true_eq, decide_eq_false_iff_not, Bool.not_eq_true', Bool.not_eq_false', Bool.not_true, Bool.not_false] at h; try exact absurd trivial h)))
           | ((with_reducible (show evG _ _ _ _ _)); first
             | (with_reducible apply go_seq)
             | (with_reducible apply go_region)
             | ((with_reducible apply go_cond_t); rfl; rfl)
             | (((with_reducible apply go_cond); rfl) <;> (intro h; simp only [h]; try simp only [decide_eq_true_eq, decide_eq_false_iff_not, Bool.not_eq_true', Bool.not_eq_false', Bool.not_true, Bool.not_false] at h; try exact absurd trivial h))
             | (with_reducible apply go_ret)
             | (with_reducible apply go_skipc)
             | (with_reducible apply go_block))
           | (with_reducible apply go_kseq)
           | (with_reducible apply go_kseq_ret)
           | (with_reducible apply go_kblock)
           | (with_reducible apply go_kblock_ret)
           | ((with_reducible apply end_int); rfl)
           | (with_reducible rfl)
  all_goals first
    | rfl
    | (exfalso; simp_all; done)
    | (exfalso; omega)
    | trace_state
theorem k_CheckBatch (s : Yard) (b : Batch) (hs : OkYard s) (hb : OkBatch s b) : Contract Try.prog 30 [.agg (encYard s), .agg (encBatch b)] (.ret (.int .i64 0)) := by
  have h1 := k_Check s hs
  have h2 := k_checkBatch s b hs.b20 hb
  refine contract_of mix Try.func30 rfl rfl (by rw [Try.ntmps30]; exact Nat.le_of_ble_eq_true rfl) ?_; rw [Try.results30, Try.ntmps30]; simp only [argsE, Nat.reduceAdd]
  repeat' first
           | (with_reducible apply go_op)
           | (with_reducible apply go_next)
           | ((with_reducible (show evOp _ _ _ _ _ _)); first
             | (((with_reducible apply go_mv_int); rfl; rfl))
             | ((with_reducible apply go_as))
             | (((with_reducible apply go_ld_agg); rfl; rfl; rfl; rfl))
             | (((with_reducible apply go_cmp); rfl; rfl; rfl; rfl))
             | ((with_reducible (show evOp _ (.call _) _ _ _ _)) ; first | ((with_reducible apply go_fn_int); rfl; (exact h1); rfl) | ((with_reducible apply go_fn_int); rfl; (exact h2); rfl))
             | (((with_reducible apply go_bx_agg); rfl; rfl; (exact Nat.le_of_ble_eq_true rfl); rfl; rfl)))
           | ((with_reducible (show evOps _ _ _ _ _ _)); first
             | (with_reducible apply go_nil))
           | ((with_reducible (show evG _ _ _ _ _)); first
             | (with_reducible apply go_seq)
             | (with_reducible apply go_region)
             | ((with_reducible apply go_cond_f); rfl; rfl)
             | (with_reducible apply go_ret)
             | (with_reducible apply go_skipc))
           | (with_reducible apply go_kseq)
           | ((with_reducible apply end_int); rfl)
           | (with_reducible rfl)
end Go.Pv.Soil

open Go Go.Proofs Go.Pv
set_option maxHeartbeats 4000000
set_option maxRecDepth 100000
set_option linter.unusedSimpArgs false
set_option linter.unusedVariables false
namespace Go.Pv.Soil
theorem scalR_I : ∀ l : List Int, scalR (l.map encI) = true
  | [] => rfl
  | a :: l => by
    have := scalR_I l
    simp only [scalR, List.map_cons, List.all_cons, Bool.and_eq_true] at this ⊢
    exact ⟨rfl, this⟩
def sumE (b : Batch) (f : Bulk) (c : Int) : Int := (b.bed - b.over) * f.num + c
def volE (b : Batch) (f : Bulk) (c : Int) : Int := sumE b f c / f.den
def carE (b : Batch) (f : Bulk) (c : Int) : Int := sumE b f c % f.den
theorem idxOf_at {α : Type} {p : α → Bool} {l : List α} (h : 0 ≤ idxOf p l) : ∃ k : Nat, ∃ hk : k < l.length, idxOf p l = k ∧ p l[k] = true := by
  unfold idxOf at h ⊢
  cases hf : l.findIdx? p with
  | none => rw [hf] at h; simp at h
  | some k =>
    obtain ⟨h1, h2, _⟩ := List.findIdx?_eq_some_iff_getElem.1 hf
    exact ⟨k, h1, rfl, h2⟩
theorem sumE_bd {b : Batch} {f : Bulk} {c : Int} (hb : 0 ≤ b.bed ∧ b.bed ≤ 1000000000000) (ho : 0 ≤ b.over ∧ b.over ≤ b.bed) (hf : bulkOK f = true) (hc : 0 ≤ c ∧ c ≤ f.den - 1) :
    (0 ≤ (b.bed - b.over) * f.num ∧ (b.bed - b.over) * f.num ≤ 10000000000000000) ∧ 0 ≤ sumE b f c ∧ sumE b f c ≤ 10000000000001000 ∧ 0 ≤ volE b f c ∧ volE b f c ≤ 10000000000001000 ∧ 0 ≤ carE b f c ∧ carE b f c ≤ f.den - 1 := by
  have h := of_decide_eq_true hf
  have h1 : 0 ≤ (b.bed - b.over) * f.num := Int.mul_nonneg (by omega) (by omega)
  have h2 : (b.bed - b.over) * f.num ≤ 1000000000000 * 10000 := Int.mul_le_mul (by omega) (by omega) (by omega) (by omega)
  have h3 : 0 ≤ sumE b f c ∧ sumE b f c ≤ 10000000000001000 := by unfold sumE; omega
  have h4 : 0 ≤ volE b f c := Int.ediv_nonneg h3.1 (by omega)
  have h5 : volE b f c ≤ sumE b f c := Int.ediv_le_self _ h3.1
  have h6 : 0 ≤ carE b f c := Int.emod_nonneg _ (by omega)
  have h7 : carE b f c < f.den := Int.emod_lt_of_pos _ (by omega)
  omega
theorem k_bulked (s : Yard) (b : Batch) (c : List Int) (fl : Bool) (k : Nat) (h20 : s.bulk.length ≤ 20) (hb : OkBatch s b) (hk : bulkI s b.soil = k) (hkl : k < s.bulk.length) (hbok : bulkOK s.bulk[k] = true) (hcl : c.length = s.bulk.length)
    (hc : 0 ≤ c[k]'(by omega) ∧ c[k]'(by omega) ≤ s.bulk[k].den - 1) :
    ContractM Try.prog 28 [.agg (encYard s), .agg (encBatch b), .os 0 0 c.length] ⟨1, fl, c.map encI⟩ (.int .i64 (volE b s.bulk[k] (c[k]'(by omega)))) ⟨1, fl, (c.set k (carE b s.bulk[k] (c[k]'(by omega)))).map encI⟩ := by
  have hf := k_factorOf s b.soil (by omega)
  rw [hk] at hf
  have hsum := sumE_bd hb.bed hb.over hbok hc
  have hd := of_decide_eq_true hbok
  have h2 := hb.bed
  have h3 := hb.over
  refine contractM_of mix Try.func28 rfl rfl (by rw [Try.ntmps28]; exact Nat.le_of_ble_eq_true rfl) (by kernel_rfl) (scalR_I _) rfl ?_; rw [Try.results28, Try.ntmps28]; simp only [argsE, Nat.reduceAdd]
  repeat' first
           | (with_reducible apply go_op)
           | (with_reducible apply go_next)
           | ((with_reducible (show evOp _ _ _ _ _ _)); first
             | ((with_reducible (show evOp _ (.move _) _ _ _ _)) ; first | ((with_reducible apply go_mv_int); rfl; rfl) | ((with_reducible apply go_mv_os); rfl; rfl))
             | ((with_reducible apply go_as))
             | ((with_reducible (show evOp _ (.load _ _) _ _ _ _)) ; first | ((with_reducible apply go_load_om); rfl; rfl; rfl; rfl; rotate_left; assumption) | ((with_reducible apply go_ld_ptr); rfl; rfl; rfl) | ((with_reducible apply go_ld_agg); rfl; rfl; rfl; rfl) | ((with_reducible apply go_load_own); rfl; rfl; rfl; rfl))
             | ((with_reducible (show evOp _ (.fieldAddr _ _ _) _ _ _ _)) ; first | ((with_reducible apply go_fieldAddr); rfl; rfl) | ((with_reducible apply go_fieldAddr_own); rfl; rfl; rfl))
             | ((with_reducible (show evOp _ (.indexAddr _ _ _) _ _ _ _)) ; first | ((with_reducible apply go_index_nat); rfl; rfl; (with_reducible rfl); (intro; rfl); rfl; omega; (intro hlt)) | ((with_reducible apply go_index_om); rfl; rfl; rfl; (with_reducible rfl); rfl; rfl; omega; (intro hlt)))
             | ((with_reducible (show evOp _ (.binOp _ _ _ _ _) _ _ _ _)) ; first | ((with_reducible apply go_add); rfl; rfl; rfl; omega) | ((with_reducible apply go_sub); rfl; rfl; rfl; omega) | ((with_reducible apply go_mul); rfl; rfl; rfl; omega) | ((with_reducible apply go_rem_pos); rfl; rfl; rfl; omega))
             | (((with_reducible apply go_fn_int); rfl; (exact hf); rfl))
             | (((with_reducible apply go_st_agg); rfl; rfl; rfl; rfl; rfl; rfl; rfl))
             | (((with_reducible apply go_bx_agg); rfl; rfl; (exact Nat.le_of_ble_eq_true rfl); rfl; rfl))
             | (((with_reducible apply go_alloc); rfl; rfl; rfl)))
           | ((with_reducible (show evOps _ _ _ _ _ _)); first
             | (with_reducible apply go_nil)
             | ((with_reducible apply go_pre); rfl)
             | (with_reducible apply go_pre_nil)
             | ((with_reducible apply go_suf); rfl)
             | (with_reducible apply go_suf_nil))
           | ((with_reducible (show evG _ _ _ _ _)); first
             | (with_reducible apply go_seq)
             | (with_reducible apply go_region)
             | ((with_reducible apply go_order); kernel_rfl; rfl))
           | (with_reducible apply go_kseq)
           | (with_reducible apply go_ksuf)
  refine go_store_om (f := encI) (l := c) (a := carE b s.bulk[k] (c[k]'(by omega))) rfl rfl rfl (by omega) rfl rfl rfl rfl (Nat.le_of_ble_eq_true rfl) rfl ?_
  repeat' first
           | (with_reducible apply go_op)
           | (with_reducible apply go_next)
           | ((with_reducible (show evOp _ _ _ _ _ _)); first
             | (((with_reducible apply go_mv_int); rfl; rfl))
             | ((with_reducible apply go_as))
             | (((with_reducible apply go_load_own); rfl; rfl; rfl; rfl))
             | (((with_reducible apply go_fieldAddr_own); rfl; rfl; rfl))
             | (((with_reducible apply go_quo_pos); rfl; rfl; rfl; omega)))
           | ((with_reducible (show evOps _ _ _ _ _ _)); first
             | (with_reducible apply go_nil))
           | ((with_reducible (show evG _ _ _ _ _)); first
             | (with_reducible apply go_seq)
             | (with_reducible apply go_region)
             | (with_reducible apply go_ret))
           | (with_reducible apply go_kseq)
  all_goals first | exact ⟨[_], rfl, rfl, rfl⟩ | trace_state
theorem k_Bulked (s : Yard) (b : Batch) (k : Nat) (hs : OkYard s) (hb : OkBatch s b) (hk : bulkI s b.soil = k) (hkl : k < s.bulk.length) (hkc : k < s.carry.length) :
    Contract Try.prog 13 [.agg (encYard s), .agg (encBatch b)] (.ret (.tup [.int .i64 (volE b s.bulk[k] s.carry[k]), .int .i64 (carE b s.bulk[k] s.carry[k]), .int .i64 0])) := by
  have h1 := k_CheckBatch s b hs hb
  have hcl := hs.cl
  have h20 := hs.b20
  have h2 := k_clonedI s.carry (by omega)
  have hf := k_factorOf s b.soil (by omega)
  rw [hk] at hf
  have hbk := k_bulked s b s.carry true k h20 hb hk hkl (hs.bok _ (List.getElem_mem _)).1 hcl (hs.cok k hkc hkl)
  obtain ⟨c', hc', hlen, hget⟩ : ∃ c' : List Int, c' = s.carry.set k (carE b s.bulk[k] s.carry[k]) ∧ c'.length = s.carry.length ∧ ∀ h : k < c'.length, c'[k]'h = carE b s.bulk[k] s.carry[k] := ⟨_, rfl, List.length_set, fun h => by rw [List.getElem_set_self]⟩
  rw [← hc'] at hbk
  refine contract_of mix Try.func13 rfl rfl (by rw [Try.ntmps13]; exact Nat.le_of_ble_eq_true rfl) ?_; rw [Try.results13, Try.ntmps13]; simp only [argsE, Nat.reduceAdd]
  repeat' first
           | ((with_reducible (show evG _ _ (.region 5 _ _) _ _)); (with_reducible apply go_regionM))
           | ((with_reducible apply (goM_call (b := 416))); rfl; rfl; (exact scalR_I _); rfl; rfl; (exact hbk); rfl; rfl)
           | (with_reducible apply goM_op)
           | (with_reducible apply goM_next)
           | (with_reducible apply goM_nil)
           | (with_reducible apply go_op)
           | (with_reducible apply go_next)
           | ((with_reducible (show evOp _ _ _ _ _ _)); first
             | ((with_reducible (show evOp _ (.move _) _ _ _ _)) ; first | ((with_reducible apply go_mv_int); rfl; rfl) | ((with_reducible apply go_mv_os); rfl; rfl))
             | ((with_reducible apply go_as))
             | ((with_reducible (show evOp _ (.load _ _) _ _ _ _)) ; first | ((with_reducible apply go_load_om); rfl; rfl; rfl; rfl; rotate_left; assumption) | ((with_reducible apply go_ld_agg); rfl; rfl; rfl; rfl) | ((with_reducible apply go_load_own); rfl; rfl; rfl; rfl))
             | (((with_reducible apply go_fieldAddr_own); rfl; rfl; rfl))
             | (((with_reducible apply go_index_om); rfl; rfl; rfl; (with_reducible rfl); rfl; rfl; omega; (intro hlt)))
             | (((with_reducible apply go_cmp); rfl; rfl; rfl; rfl))
             | ((with_reducible (show evOp _ (.call _) _ _ _ _)) ; first | ((with_reducible apply go_fn_int); rfl; (exact h1); rfl) | ((with_reducible apply go_fn_fr); rfl; (exact h2); (exact scalI); rfl) | ((with_reducible apply go_fn_int); rfl; (exact hf); rfl))
             | (((with_reducible apply go_bx_agg); rfl; rfl; (exact Nat.le_of_ble_eq_true rfl); rfl; rfl)))
           | ((with_reducible (show evOps _ _ _ _ _ _)); first
             | (with_reducible apply go_nil)
             | (with_reducible apply go_take)
             | (with_reducible apply go_take0))
           | ((with_reducible (show evG _ _ _ _ _)); first
             | (with_reducible apply go_seq)
             | (with_reducible apply go_region)
             | ((with_reducible apply go_cond_f); rfl; rfl)
             | ((with_reducible apply (go_drawL 8 [[1, 6, 7], [], []])); decide +kernel; rfl)
             | (with_reducible apply go_ret)
             | (with_reducible apply go_skipc))
           | (with_reducible apply go_klined)
           | (with_reducible apply go_line_drop)
           | (with_reducible apply go_line_drop0)
           | (with_reducible apply go_line)
           | (with_reducible apply go_line_nil)
           | (with_reducible apply go_kln)
           | (with_reducible apply go_again_nil)
           | ((with_reducible apply go_again); rfl; (intro id'))
           | ((with_reducible apply go_kagain); rfl)
           | (with_reducible apply go_kseq)
           | ((with_reducible apply end_t3); rfl; rfl; rfl; rfl; rfl; rfl)
  rw [← hget (by omega)]; rfl
end Go.Pv.Soil

open Go Go.Proofs Go.Pv
set_option maxHeartbeats 4000000
set_option maxRecDepth 100000
set_option linter.unusedSimpArgs false
set_option linter.unusedVariables false
namespace Go.Pv.Soil
theorem k_indexI (l : List Int) (hl : l.length < 1000000000000) (v : Int) : Contract Try.prog 61 [.sl (l.map encI), .int .i64 v] (.ret (.int .i64 (idxOf (fun x => decide (v = x)) l))) := by
  refine contract_of mix Try.func61 rfl rfl (by rw [Try.ntmps61]; exact Nat.le_of_ble_eq_true rfl) ?_; rw [Try.results61, Try.ntmps61]; simp only [argsE, Nat.reduceAdd]
  repeat' first
           | (with_reducible apply go_op)
           | (with_reducible apply go_next)
           | ((with_reducible (show evOp _ _ _ _ _ _)); first
             | ((with_reducible (show evOp _ (.move _) _ _ _ _)) ; first | ((with_reducible apply go_mv_int); rfl; rfl) | ((with_reducible apply go_mv_sl); rfl; rfl))
             | ((with_reducible apply go_as))
             | (((with_reducible apply go_len); rfl; rfl)))
           | ((with_reducible (show evOps _ _ _ _ _ _)); first
             | (with_reducible apply go_nil))
           | ((with_reducible (show evG _ _ _ _ _)); first
             | (with_reducible apply go_seq)
             | (with_reducible apply go_region)
             | (with_reducible apply go_block))
           | (with_reducible apply go_kseq)
  refine go_count (l.length) (fun i => ⟨[(8, .int .i64 i), (7, .int .i64 l.length), (0, .sl (l.map encI)), (1, .int .i64 v)], [], 0, 19⟩) (fun i => ∀ j (hj : j < i) (hj' : j < l.length), decide (v = l[j]) = false) (entails_eq (k := 0) (ns := []) (ks := [8, 7, 0, 1]) [] rfl (by simp) rfl) (by omega) ?_
  intro i hi hC
  repeat' first
           | (with_reducible apply go_op)
           | (with_reducible apply go_next)
           | ((with_reducible (show evOp _ _ _ _ _ _)); first
             | ((with_reducible (show evOp _ (.move _) _ _ _ _)) ; first | ((with_reducible apply go_mv_int); rfl; rfl) | ((with_reducible apply go_mv_sl); rfl; rfl))
             | ((with_reducible apply go_as))
             | (((with_reducible apply go_load); rfl; rfl; rfl))
             | (((with_reducible apply go_index_nat); rfl; rfl; (with_reducible rfl); (intro; rfl); rfl; omega; (intro hlt)))
             | ((with_reducible (show evOp _ (.binOp _ _ _ _ _) _ _ _ _)) ; first | ((with_reducible apply go_cmp); rfl; rfl; rfl; rfl) | ((with_reducible apply go_add); rfl; rfl; rfl; omega)))
           | ((with_reducible (show evOps _ _ _ _ _ _)); first
             | (with_reducible apply go_nil))
           | ((with_reducible (show evG _ _ _ _ _)); first
             | (with_reducible apply go_seq)
             | (with_reducible apply go_region)
             | (((with_reducible apply go_cond); rfl) <;> (intro h; simp only [h]; try simp only [decide_eq_true_eq, decide_eq_false_iff_not, Bool.not_eq_true', Bool.not_eq_false', Bool.not_true, Bool.not_false] at h; try exact absurd trivial h))
             | (with_reducible apply go_ret)
             | (with_reducible apply go_skipc)
             | (with_reducible apply go_block)
             | (with_reducible apply go_exit))
           | (with_reducible apply go_kseq)
           | (with_reducible apply go_kseq_ret)
           | (with_reducible apply go_kblock)
           | (with_reducible apply go_kblock_ret)
           | (with_reducible apply go_kblock_exit)
           | (with_reducible apply go_kseq_exit)
           | ((with_reducible apply end_int); rfl)
  · have h2 : i < l.length := by omega
    exact (idxOf_some (p := fun x => decide (v = x)) h2 (by simp; first | exact h | exact h.symm) fun j hj => hC j hj (by omega)).symm
  · have h2 : i < l.length := by omega
    refine ⟨by omega, fun j hj hj' => ?_, entails_eq (k := 0) (ns := []) (ks := [8, 7, 0, 1]) [] rfl (by simp) rfl⟩
    rcases Nat.lt_succ_iff_lt_or_eq.1 hj with h' | rfl
    · exact hC j h' hj'
    · simp; first | exact h | exact fun e => h e.symm
  · refine (idxOf_none fun x hx => ?_).symm
    obtain ⟨j, hj, rfl⟩ := List.mem_iff_getElem.1 hx
    exact hC j (by omega) hj
theorem k_containsI (l : List Int) (hl : l.length < 1000000000000) (v : Int) : Contract Try.prog 40 [.sl (l.map encI), .int .i64 v] (.ret (.bool (l.any fun x => decide (v = x)))) := by
  refine contract_of mix Try.func40 rfl rfl (by rw [Try.ntmps40]; exact Nat.le_of_ble_eq_true rfl) ?_; rw [Try.results40, Try.ntmps40]; simp only [argsE, Nat.reduceAdd]
  repeat' first
           | (with_reducible apply go_op)
           | (with_reducible apply go_next)
           | ((with_reducible (show evOp _ _ _ _ _ _)); first
             | ((with_reducible (show evOp _ (.move _) _ _ _ _)) ; first | ((with_reducible apply go_mv_int); rfl; rfl) | ((with_reducible apply go_mv_bool); rfl; rfl) | ((with_reducible apply go_mv_sl); rfl; rfl))
             | ((with_reducible apply go_as))
             | (((with_reducible apply go_cmp); rfl; rfl; rfl; rfl))
             | (((with_reducible apply go_fn_int); rfl; (exact k_indexI l hl v); rfl)))
           | ((with_reducible (show evOps _ _ _ _ _ _)); first
             | (with_reducible apply go_nil))
           | ((with_reducible (show evG _ _ _ _ _)); first
             | (with_reducible apply go_seq)
             | (with_reducible apply go_region)
             | (with_reducible apply go_ret))
           | (with_reducible apply go_kseq)
           | ((with_reducible apply end_bool); rfl)
  exact idxOf_ge
def refE (s : Yard) (p : Pit) (cls v : Int) : Int := if (p.classes.any fun x => decide (cls = x)) = false then 20 else if capE p - takE s.deps p.name < v then 19 else 0
theorem k_refusal (s : Yard) (p : Pit) (cls v : Int) (hp : pitOK p = true) (hc : p.classes.length ≤ 1000000) (hl : s.deps.length ≤ 200) (hd : ∀ d ∈ s.deps, depOK d = true) :
    Contract Try.prog 29 [.agg (encYard s), .agg (encPit p), .int .i64 cls, .int .i64 v] (.ret (.int .i64 (refE s p cls v))) := by
  have h1 := k_containsI p.classes (by omega) cls
  have h2 := k_room s p hp hl hd
  unfold refE
  generalize p.classes.any (fun x => decide (cls = x)) = q at *
  refine contract_of mix Try.func29 rfl rfl (by rw [Try.ntmps29]; exact Nat.le_of_ble_eq_true rfl) ?_; rw [Try.results29, Try.ntmps29]; simp only [argsE, Nat.reduceAdd]
  repeat' first
           | (with_reducible apply go_op)
           | (with_reducible apply go_next)
           | ((with_reducible (show evOp _ _ _ _ _ _)); first
             | ((with_reducible (show evOp _ (.move _) _ _ _ _)) ; first | ((with_reducible apply go_mv_int); rfl; rfl) | ((with_reducible apply go_mv_bool); rfl; rfl))
             | ((with_reducible apply go_as))
             | ((with_reducible (show evOp _ (.load _ _) _ _ _ _)) ; first | ((with_reducible apply go_ld_agg); rfl; rfl; rfl; rfl) | ((with_reducible apply go_load_own); rfl; rfl; rfl; rfl))
             | (((with_reducible apply go_fieldAddr_own); rfl; rfl; rfl))
             | (((with_reducible apply go_cmp); rfl; rfl; rfl; rfl))
             | ((with_reducible (show evOp _ (.call _) _ _ _ _)) ; first | ((with_reducible apply go_fn_bool); rfl; (exact h1); rfl) | ((with_reducible apply go_fn_int); rfl; (exact h2); rfl))
             | (((with_reducible apply go_not); rfl; rfl))
             | (((with_reducible apply go_bx_agg); rfl; rfl; (exact Nat.le_of_ble_eq_true rfl); rfl; rfl)))
           | ((with_reducible (show evOps _ _ _ _ _ _)); first
             | (with_reducible apply go_nil))
           | ((with_reducible (show evG _ _ _ _ _)); first
             | (with_reducible apply go_seq)
             | (with_reducible apply go_region)
             | (((with_reducible apply go_cond); rfl) <;> (intro h; simp only [h]; try simp only [decide_eq_true_eq, decide_eq_false_iff_not, Bool.not_eq_true', Bool.not_eq_false', Bool.not_true, Bool.not_false] at h; try exact absurd trivial h))
             | (with_reducible apply go_ret)
             | (with_reducible apply go_skipc)
             | (with_reducible apply go_block))
           | (with_reducible apply go_kseq)
           | (with_reducible apply go_kseq_ret)
           | (with_reducible apply go_kblock)
           | (with_reducible apply go_kblock_ret)
           | ((with_reducible apply end_int); rfl)
  all_goals (simp_all; try omega)
theorem k_clonedIp (l : List Int) (hl : l.length ≤ 1000000000) : Contract Try.prog 31 [.sl (l.map encI)] (.ret (.sl (l.map encI))) := by
  by_cases h0 : l.length = 0
  · obtain rfl : l = [] := List.eq_nil_of_length_eq_zero h0
    refine contract_of mix Try.func31 rfl rfl (by rw [Try.ntmps31]; exact Nat.le_of_ble_eq_true rfl) ?_; rw [Try.results31, Try.ntmps31]; simp only [argsE, Nat.reduceAdd]
    repeat' first
           | (with_reducible apply go_op)
           | (with_reducible apply go_next)
           | ((with_reducible (show evOp _ _ _ _ _ _)); first
             | ((with_reducible (show evOp _ (.move _) _ _ _ _)) ; first | ((with_reducible apply go_mv_sl); rfl; rfl) | ((with_reducible apply go_mv_nilsl); rfl; rfl))
             | ((with_reducible apply go_as))
             | (((with_reducible apply go_cmp); rfl; rfl; rfl; rfl))
             | (((with_reducible apply go_len); rfl; rfl)))
           | ((with_reducible (show evOps _ _ _ _ _ _)); first
             | (with_reducible apply go_nil))
           | ((with_reducible (show evG _ _ _ _ _)); first
             | (with_reducible apply go_seq)
             | (with_reducible apply go_region)
             | ((with_reducible apply go_cond_t); rfl; rfl)
             | (with_reducible apply go_ret))
           | (with_reducible apply go_kseq)
           | (with_reducible apply go_kseq_ret)
    all_goals first
      | exact end_nilsl rfl
      | (exfalso; simp_all; done)
      | trace_state
  · have hb : Try.prog.bytesOf 3 = 8 := by kernel_rfl
    refine contract_of mix Try.func31 rfl rfl (by rw [Try.ntmps31]; exact Nat.le_of_ble_eq_true rfl) ?_; rw [Try.results31, Try.ntmps31]; simp only [argsE, Nat.reduceAdd]
    repeat' first
           | (with_reducible apply go_op)
           | (with_reducible apply go_next)
           | ((with_reducible (show evOp _ _ _ _ _ _)); first
             | ((with_reducible (show evOp _ (.move _) _ _ _ _)) ; first | ((with_reducible apply go_mv_sl); rfl; rfl) | ((with_reducible apply go_mv_nilsl); rfl; rfl))
             | ((with_reducible apply go_as))
             | (((with_reducible apply go_cmp); rfl; rfl; rfl; rfl))
             | (((with_reducible apply go_len); rfl; rfl)))
           | ((with_reducible (show evOps _ _ _ _ _ _)); first
             | (with_reducible apply go_nil))
           | ((with_reducible (show evG _ _ _ _ _)); first
             | (with_reducible apply go_seq)
             | (with_reducible apply go_region)
             | (((with_reducible apply go_cond); rfl) <;> (intro h; simp only [h]; try simp only [decide_eq_true_eq, decide_eq_false_iff_not, Bool.not_eq_true', Bool.not_eq_false', Bool.not_true, Bool.not_false] at h; try exact absurd trivial h))
             | (with_reducible apply go_ret)
             | (with_reducible apply go_skipc))
           | (with_reducible apply go_kseq)
           | (with_reducible apply go_kseq_ret)
    · exfalso; omega
    refine go_makeN (z := .int .i64 0) rfl rfl (by kernel_rfl) rfl rfl (by kernel_rfl) (by omega) rfl ?_
    repeat' first
           | ((with_reducible (show evG _ _ (.region 4 _ _) _ _)); (with_reducible apply go_regionM))
           | ((with_reducible apply (goM_copy (f := encI) (l := l) (hf := liteI))); rfl; rfl; kernel_rfl; (first | rfl | simp); rfl; rfl; omega; rfl)
           | (with_reducible apply goM_op)
           | (with_reducible apply goM_next)
           | (with_reducible apply goM_nil)
           | (with_reducible apply go_op)
           | (with_reducible apply go_next)
           | ((with_reducible (show evOp _ _ _ _ _ _)); first
             | ((with_reducible (show evOp _ (.move _) _ _ _ _)) ; first | ((with_reducible apply go_mv_sl); rfl; rfl) | ((with_reducible apply go_mv_os); rfl; rfl))
             | ((with_reducible apply go_as)))
           | ((with_reducible (show evOps _ _ _ _ _ _)); first
             | (with_reducible apply go_nil))
           | ((with_reducible (show evG _ _ _ _ _)); first
             | (with_reducible apply go_seq)
             | (with_reducible apply go_region)
             | (with_reducible apply go_ret))
           | (with_reducible apply go_kseq)
    all_goals first
      | exact end_sln (l := l) rfl rfl (by simp) rfl
      | trace_state
end Go.Pv.Soil

open Go Go.Proofs Go.Pv
set_option maxHeartbeats 4000000
set_option maxRecDepth 100000
set_option linter.unusedSimpArgs false
set_option linter.unusedVariables false
namespace Go.Pv.Soil
theorem k_copied (s : Yard) (hs : OkYard s) : Contract Try.prog 36 [.agg (encYard s)] (.ret (.agg [.fr 6 (s.pits.map encPit), .fr 3 (s.bulk.map encBulk), .fr 3 (s.deps.map encDep), .fr 1 (s.carry.map encI)])) := by
  have h8 := hs.p8
  have h20 := hs.b20
  have h200 := hs.d200
  have hcl := hs.cl
  have c1 := k_clonedP s.pits (by omega)
  have c2 := k_clonedB s.bulk (by omega)
  have c3 := k_clonedD s.deps (by omega)
  have c4 := k_clonedI s.carry (by omega)
  refine contract_of mix Try.func36 rfl rfl (by rw [Try.ntmps36]; exact Nat.le_of_ble_eq_true rfl) ?_; rw [Try.results36, Try.ntmps36]; simp only [argsE, Nat.reduceAdd]
  repeat' first
           | (with_reducible apply go_op)
           | (with_reducible apply go_next)
           | ((with_reducible (show evOp _ _ _ _ _ _)); first
             | (((with_reducible apply go_mv_int); rfl; rfl))
             | (((with_reducible apply go_load_own); rfl; rfl; rfl; rfl))
             | (((with_reducible apply go_fieldAddr_own); rfl; rfl; rfl))
             | ((with_reducible (show evOp _ (.call _) _ _ _ _)) ; first | ((with_reducible apply go_len_own); rfl; rfl; rfl) | ((with_reducible apply go_fn_frl); rfl; rfl; (exact c1); (exact litePit); rfl) | ((with_reducible apply go_fn_frl); rfl; rfl; (exact c2); (exact liteBulk); rfl) | ((with_reducible apply go_fn_frl); rfl; rfl; (exact c3); (exact liteDep); rfl) | ((with_reducible apply go_fn_frl); rfl; rfl; (exact c4); (exact liteI); rfl))
             | (((with_reducible apply go_st_agg); rfl; rfl; rfl; rfl; rfl; rfl; rfl))
             | (((with_reducible apply go_bd4_os); rfl; rfl; rfl; rfl; rfl; rfl))
             | (((with_reducible apply go_bx_agg); rfl; rfl; (exact Nat.le_of_ble_eq_true rfl); rfl; rfl))
             | (((with_reducible apply go_alloc); rfl; rfl; rfl)))
           | ((with_reducible (show evOps _ _ _ _ _ _)); first
             | (with_reducible apply go_nil)
             | ((with_reducible apply go_pre); rfl)
             | ((with_reducible apply go_pre_stop); rfl)
             | ((with_reducible apply go_suf); rfl)
             | ((with_reducible apply go_suf_stop); rfl))
           | ((with_reducible (show evG _ _ _ _ _)); first
             | (with_reducible apply go_seq)
             | (with_reducible apply go_region)
             | ((with_reducible apply go_order); kernel_rfl; rfl)
             | (with_reducible apply go_block))
           | (with_reducible apply go_kseq)
           | (with_reducible apply go_ksuf)
  refine go_count s.pits.length (fun i => ⟨[(21, .int .i64 i), (20, .int .i64 s.pits.length), (3, .op 0 0 0), (2, .op 1 0 0)], [(0, ⟨4, false, [[.os 2 0 s.pits.length, .os 3 0 s.bulk.length, .os 4 0 s.deps.length, .os 5 0 s.carry.length]]⟩), (1, ⟨4, false, [[.nilsl, .nilsl, .nilsl, .nilsl]]⟩), (2, ⟨6, true, s.pits.map encPit⟩), (3, ⟨3, true, s.bulk.map encBulk⟩), (4, ⟨3, true, s.deps.map encDep⟩), (5, ⟨1, true, s.carry.map encI⟩)], 32, 38⟩) (fun i => True) (entails_eq (nx := 32) (k := 0) (ns := []) (ks := [21, 20, 3, 2]) [(480, 0), (32, 1), (128, 2), (224, 3), (320, 4), (416, 5)] rfl (by simp) (by kernel_rfl)) trivial ?_
  intro i hi _
  by_cases hlt : i < s.pits.length
  · have hc := k_clonedIp s.pits[i].classes (by have := (hs.pok s.pits[i] (List.getElem_mem _)).2.2.2; omega)
    repeat' first
           | (with_reducible apply go_op)
           | (with_reducible apply go_next)
           | ((with_reducible (show evOp _ _ _ _ _ _)); first
             | (((with_reducible apply go_mv_int); rfl; rfl))
             | ((with_reducible apply go_as))
             | ((with_reducible (show evOp _ (.load _ _) _ _ _ _)) ; first | ((with_reducible apply go_load_om); rfl; rfl; rfl; rfl; rotate_left; assumption) | ((with_reducible apply go_ld_agg); rfl; rfl; rfl; rfl) | ((with_reducible apply go_load_own); rfl; rfl; rfl; rfl))
             | (((with_reducible apply go_fieldAddr_own); rfl; rfl; rfl))
             | (((with_reducible apply go_index_om); rfl; rfl; rfl; (with_reducible rfl); rfl; rfl; omega; (intro hlt)))
             | (((with_reducible apply go_cmp); rfl; rfl; rfl; rfl))
             | (((with_reducible apply go_fn_sl); rfl; rfl; (exact hc); rfl))
             | (((with_reducible apply go_st_agg); rfl; rfl; rfl; rfl; rfl; rfl; rfl)))
           | ((with_reducible (show evOps _ _ _ _ _ _)); first
             | (with_reducible apply go_nil)
             | ((with_reducible apply go_pre); rfl)
             | ((with_reducible apply go_pre_stop); rfl)
             | ((with_reducible apply go_suf); rfl)
             | ((with_reducible apply go_suf_stop); rfl))
           | ((with_reducible (show evG _ _ _ _ _)); first
             | (with_reducible apply go_seq)
             | (with_reducible apply go_region)
             | (((with_reducible apply go_cond); rfl) <;> (intro h; simp only [h]; try simp only [decide_eq_true_eq, decide_eq_false_iff_not, Bool.not_eq_true', Bool.not_eq_false', Bool.not_true, Bool.not_false] at h; try exact absurd trivial h))
             | ((with_reducible apply go_order); kernel_rfl; rfl)
             | (with_reducible apply go_ret)
             | (with_reducible apply go_skipc)
             | (with_reducible apply go_block)
             | (with_reducible apply go_exit))
           | (with_reducible apply go_kseq)
           | (with_reducible apply go_ksuf)
           | (with_reducible apply go_kblock_exit)
           | (with_reducible apply go_kseq_exit)
    all_goals first
      | exact absurd hlt (by omega)
      | (refine go_store_om (f := encPit) (l := s.pits) (a := s.pits[i]) rfl rfl rfl hlt rfl rfl rfl rfl (Nat.le_of_ble_eq_true rfl) rfl ?_
         rw [List.set_getElem_self]
         repeat' first
           | (with_reducible apply go_op)
           | (with_reducible apply go_next)
           | ((with_reducible (show evOp _ _ _ _ _ _)); first
             | (((with_reducible apply go_mv_int); rfl; rfl))
             | (((with_reducible apply go_add); rfl; rfl; rfl; omega)))
           | ((with_reducible (show evOps _ _ _ _ _ _)); first
             | (with_reducible apply go_nil))
           | ((with_reducible (show evG _ _ _ _ _)); first
             | (with_reducible apply go_region))
           | (with_reducible apply go_kseq)
           | (with_reducible apply go_kblock)
         exact ⟨by omega, trivial, entails_eq (nx := 32) (k := 0) (ns := []) (ks := [21, 20, 3, 2]) [(0, 0), (1, 1), (2, 2), (3, 3), (4, 4), (5, 5)] rfl (by simp) (by kernel_rfl)⟩)
      | trace_state
  · repeat' first
           | (with_reducible apply go_op)
           | (with_reducible apply go_next)
           | ((with_reducible (show evOp _ _ _ _ _ _)); first
             | (((with_reducible apply go_mv_int); rfl; rfl))
             | ((with_reducible apply go_as))
             | ((with_reducible (show evOp _ (.load _ _) _ _ _ _)) ; first | ((with_reducible apply go_load_om); rfl; rfl; rfl; rfl; rotate_left; assumption) | ((with_reducible apply go_ld_agg); rfl; rfl; rfl; rfl) | ((with_reducible apply go_load_own); rfl; rfl; rfl; rfl))
             | (((with_reducible apply go_fieldAddr_own); rfl; rfl; rfl))
             | (((with_reducible apply go_index_om); rfl; rfl; rfl; (with_reducible rfl); rfl; rfl; omega; (intro hlt)))
             | (((with_reducible apply go_cmp); rfl; rfl; rfl; rfl))
             | (((with_reducible apply go_st_agg); rfl; rfl; rfl; rfl; rfl; rfl; rfl)))
           | ((with_reducible (show evOps _ _ _ _ _ _)); first
             | (with_reducible apply go_nil)
             | ((with_reducible apply go_pre); rfl))
           | ((with_reducible (show evG _ _ _ _ _)); first
             | (with_reducible apply go_seq)
             | (with_reducible apply go_region)
             | (((with_reducible apply go_cond); rfl) <;> (intro h; simp only [h]; try simp only [decide_eq_true_eq, decide_eq_false_iff_not, Bool.not_eq_true', Bool.not_eq_false', Bool.not_true, Bool.not_false] at h; try exact absurd trivial h))
             | ((with_reducible apply go_order); kernel_rfl; rfl)
             | (with_reducible apply go_ret)
             | (with_reducible apply go_skipc)
             | (with_reducible apply go_block)
             | (with_reducible apply go_exit))
           | (with_reducible apply go_kseq)
           | (with_reducible apply go_kblock_exit)
           | (with_reducible apply go_kseq_exit)
    all_goals first
      | exact absurd hlt (by omega)
      | exact end_fr4 rfl rfl rfl rfl rfl rfl rfl rfl rfl (by decide)
      | trace_state
end Go.Pv.Soil

open Go Go.Proofs Go.Pv
set_option maxHeartbeats 4000000
set_option maxRecDepth 100000
set_option linter.unusedSimpArgs false
set_option linter.unusedVariables false
namespace Go.Pv.Soil
/-- The yard with a batch in a pit. -/
def placeY (s : Yard) (b : Batch) (pit : ByteArray) (k : Nat) (f : Bulk) (c : Int) : Yard := { s with deps := s.deps ++ [⟨b.number, pit, volE b f c⟩], carry := s.carry.set k (carE b f c) }
def zeroY : Yard := ⟨[], [], [], []⟩
theorem k_Place (s : Yard) (b : Batch) (pit : ByteArray) (k j : Nat) (hs : OkYard s) (hb : OkBatch s b) (hk : bulkI s b.soil = k) (hkl : k < s.bulk.length) (hkc : k < s.carry.length) (hnd : depB s b.number = false) (hj : pitI s pit = j) (hjl : j < s.pits.length)
    (hr : refE s s.pits[j] b.cls (volE b s.bulk[k] s.carry[k]) = 0) :
    Contract Try.prog 16 [.agg (encYard s), .agg (encBatch b), .str pit] (.ret (.tup [.agg (encYard (if s.deps.length < 200 then placeY s b pit k s.bulk[k] s.carry[k] else zeroY)), .int .i64 (if s.deps.length < 200 then 0 else 8)])) := by
  have h1 := k_CheckBatch s b hs hb
  have h8 := hs.p8
  have hcl := hs.cl
  have h20 := hs.b20
  have h200 := hs.d200
  have hp := k_pitOf s pit (by omega)
  rw [hj] at hp
  have hdp := k_deposited s b.number (by omega)
  rw [hnd] at hdp
  have hcp := k_copied s hs
  have hpj := hs.pok s.pits[j] (List.getElem_mem _)
  have hrf := k_refusal s s.pits[j] b.cls (volE b s.bulk[k] s.carry[k]) hpj.1 hpj.2.2.2 h200 (fun d hd => (hs.dok d hd).1)
  rw [hr] at hrf
  have hbk := k_bulked s b s.carry true k h20 hb hk hkl (hs.bok _ (List.getElem_mem _)).1 hcl (hs.cok k hkc hkl)
  refine contract_of mix Try.func16 rfl rfl (by rw [Try.ntmps16]; exact Nat.le_of_ble_eq_true rfl) ?_; rw [Try.results16, Try.ntmps16]; simp only [argsE, Nat.reduceAdd]
  repeat' first
           | ((with_reducible (show evG _ _ (.region 10 _ _) _ _)); (with_reducible apply go_regionM))
           | ((with_reducible apply (goM_call (b := 739))); rfl; rfl; (exact scalR_I _); rfl; rfl; (exact hbk); rfl; rfl)
           | (with_reducible apply goM_op)
           | (with_reducible apply goM_next)
           | (with_reducible apply goM_nil)
           | (with_reducible apply go_op)
           | (with_reducible apply go_next)
           | ((with_reducible (show evOp _ _ _ _ _ _)); first
             | ((with_reducible (show evOp _ (.move _) _ _ _ _)) ; first | ((with_reducible apply go_mv_int); rfl; rfl) | ((with_reducible apply go_mv_bool); rfl; rfl) | ((with_reducible apply go_mv_str); rfl; rfl))
             | ((with_reducible apply go_as))
             | ((with_reducible (show evOp _ (.load _ _) _ _ _ _)) ; first | ((with_reducible apply go_ld_ptr); rfl; rfl; rfl) | ((with_reducible apply go_ld_agg); rfl; rfl; rfl; rfl) | ((with_reducible apply go_load_own); rfl; rfl; rfl; rfl))
             | (((with_reducible apply go_fieldAddr_own); rfl; rfl; rfl))
             | (((with_reducible apply go_index_nat); rfl; rfl; (with_reducible rfl); (intro; rfl); rfl; omega; (intro hlt)))
             | (((with_reducible apply go_cmp); rfl; rfl; rfl; rfl))
             | ((with_reducible (show evOp _ (.call _) _ _ _ _)) ; first | ((with_reducible apply go_len); rfl; rfl) | ((with_reducible apply go_fn_int); rfl; (exact h1); rfl) | ((with_reducible apply go_fn_int); rfl; (exact hp); rfl) | ((with_reducible apply go_fn_bool); rfl; (exact hdp); rfl) | ((with_reducible apply go_fn_fr4); rfl; rfl; (exact hcp); (exact litePit); (exact liteBulk); (exact liteDep); (exact liteI); rfl) | ((with_reducible apply go_fn_int); rfl; (exact hrf); rfl))
             | (((with_reducible apply go_st_agg); rfl; rfl; rfl; rfl; rfl; rfl; rfl))
             | ((with_reducible (show evOp _ (.build _ _) _ _ _ _)) ; first | ((with_reducible apply go_bd3_isi); rfl; rfl; rfl; rfl; rfl) | ((with_reducible apply go_build); rfl; rfl))
             | (((with_reducible apply go_bx_agg); rfl; rfl; (exact Nat.le_of_ble_eq_true rfl); rfl; rfl))
             | (((with_reducible apply go_alloc); rfl; rfl; rfl))
             | (((with_reducible apply go_bs1_agg); rfl; rfl; rfl; rfl; rfl; rfl)))
           | ((with_reducible (show evOps _ _ _ _ _ _)); first
             | (with_reducible apply go_nil)
             | ((with_reducible apply go_pre); rfl)
             | (with_reducible apply go_pre_nil)
             | ((with_reducible apply go_suf); rfl)
             | (with_reducible apply go_suf_nil))
           | ((with_reducible (show evG _ _ _ _ _)); first
             | (with_reducible apply go_seq)
             | (with_reducible apply go_region)
             | ((with_reducible apply go_cond_f); rfl; rfl)
             | (((with_reducible apply go_cond); rfl) <;> (intro h; simp only [h]; try simp only [decide_eq_true_eq, decide_eq_false_iff_not, Bool.not_eq_true', Bool.not_eq_false', Bool.not_true, Bool.not_false] at h; try exact absurd trivial h))
             | ((with_reducible apply go_order); kernel_rfl; rfl)
             | (with_reducible apply go_ret)
             | (with_reducible apply go_skipc)
             | (with_reducible apply go_block))
           | (with_reducible apply go_kseq)
           | (with_reducible apply go_ksuf)
           | (with_reducible apply go_kseq_ret)
           | (with_reducible apply go_kblock)
  · rw [if_neg (by omega), if_neg (by omega)]
    exact end_nil4 rfl rfl rfl
  · refine go_app_map (f := encDep) (a := ⟨b.number, pit, volE b s.bulk[k] s.carry[k]⟩) (l := s.deps) scalDep rfl rfl rfl rfl rfl rfl (by kernel_rfl) (by kernel_rfl) (by omega) rfl ?_
    repeat' first
           | (with_reducible apply go_op)
           | (with_reducible apply go_next)
           | ((with_reducible (show evOp _ _ _ _ _ _)); first
             | (((with_reducible apply go_mv_int); rfl; rfl))
             | ((with_reducible apply go_as))
             | (((with_reducible apply go_ld_agg); rfl; rfl; rfl; rfl))
             | (((with_reducible apply go_fieldAddr_own); rfl; rfl; rfl))
             | ((with_reducible (show evOp _ (.store _ _ _) _ _ _ _)) ; first | ((with_reducible apply go_st_agg); rfl; rfl; rfl; rfl; rfl; rfl; rfl) | ((with_reducible apply go_store); rfl; rfl; rfl; rfl; rfl; rfl; (exact Nat.le_of_ble_eq_true rfl); (first | exact Nat.le_of_ble_eq_true rfl | omega); rfl; rfl)))
           | ((with_reducible (show evOps _ _ _ _ _ _)); first
             | (with_reducible apply go_nil))
           | ((with_reducible (show evG _ _ _ _ _)); first
             | (with_reducible apply go_seq)
             | (with_reducible apply go_region)
             | (with_reducible apply go_ret))
           | (with_reducible apply go_kseq)
    rw [if_pos (by omega), if_pos (by omega)]
    refine end_sl4 (b1 := 736) (b2 := 737) (b3 := 738) (b4 := 739) (k1 := 6) (k2 := 3) (k3 := 3) (k4 := 1) (n1 := s.pits.length) (n2 := s.bulk.length) (n3 := s.deps.length + 1) (n4 := s.carry.length) (f1 := encPit) (f2 := encBulk) (f3 := encDep) (f4 := encI) (l1 := s.pits) (l2 := s.bulk) (l3 := s.deps ++ [⟨b.number, pit, volE b s.bulk[k] s.carry[k]⟩]) (l4 := s.carry.set k (carE b s.bulk[k] s.carry[k])) ?_ ?_ ?_ ?_ ?_ ?_ ?_ ?_ ?_ ?_ rfl
    all_goals first | rfl | simp | trace_state
end Go.Pv.Soil

open Go Go.Proofs Go.Pv
set_option maxHeartbeats 4000000
set_option maxRecDepth 100000
set_option linter.unusedSimpArgs false
set_option linter.unusedVariables false
namespace Go.Pv.Soil
def zeroP : Pit := ⟨ByteArray.empty, 0, 0, 0, [], 0⟩
/-- The cheapest of the first pits that are in order. -/
def bestE (l : List Pit) (ok : Pit → Bool) : Nat → Int
  | 0 => -1
  | i + 1 => match l[i]? with
    | none => bestE l ok i
    | some p => if ok p = true ∧ (bestE l ok i < 0 ∨ p.price < (l.getD (bestE l ok i).toNat zeroP).price) then i else bestE l ok i
theorem bestE_at {l : List Pit} {ok : Pit → Bool} {i : Nat} (h : i < l.length) : bestE l ok (i + 1) = if ok l[i] = true ∧ (bestE l ok i < 0 ∨ l[i].price < (l.getD (bestE l ok i).toNat zeroP).price) then (i : Int) else bestE l ok i := by
  simp only [bestE, List.getElem?_eq_getElem h]
theorem bestE_spec {l : List Pit} {ok : Pit → Bool} : ∀ i, i ≤ l.length → bestE l ok i = -1 ∨ ∃ j : Nat, ∃ hj : j < l.length, j < i ∧ bestE l ok i = j ∧ ok l[j] = true
  | 0, _ => .inl rfl
  | i + 1, h => by
    rw [bestE_at (by omega)]
    split
    · rename_i hh
      exact .inr ⟨i, by omega, by omega, rfl, hh.1⟩
    · rcases bestE_spec (l := l) (ok := ok) i (by omega) with e | ⟨j, hj, h1, h2, h3⟩
      · exact .inl e
      · exact .inr ⟨j, hj, by omega, h2, h3⟩
theorem k_Choose (s : Yard) (b : Batch) (k : Nat) (hs : OkYard s) (hb : OkBatch s b) (hk : bulkI s b.soil = k) (hkl : k < s.bulk.length) (hkc : k < s.carry.length) (best : Int) (hbe : best = bestE s.pits (fun p => decide (refE s p b.cls (volE b s.bulk[k] s.carry[k]) = 0)) s.pits.length) :
    Contract Try.prog 12 [.agg (encYard s), .agg (encBatch b)] (.ret (.tup [.str (if best < 0 then ByteArray.empty else (s.pits.getD best.toNat zeroP).name), .int .i64 (if best < 0 then 11 else 0)])) := by
  have h1 := k_Bulked s b k hs hb hk hkl hkc
  have h8 := hs.p8
  have h200 := hs.d200
  have hrf : ∀ i (hi : i < s.pits.length), _ := fun i hi => k_refusal s s.pits[i] b.cls (volE b s.bulk[k] s.carry[k]) (hs.pok s.pits[i] (List.getElem_mem _)).1 (hs.pok s.pits[i] (List.getElem_mem _)).2.2.2 h200 (fun d hd => (hs.dok d hd).1)
  generalize hv : volE b s.bulk[k] s.carry[k] = v at *
  refine contract_of mix Try.func12 rfl rfl (by rw [Try.ntmps12]; exact Nat.le_of_ble_eq_true rfl) ?_; rw [Try.results12, Try.ntmps12]; simp only [argsE, Nat.reduceAdd]
  repeat' first
           | (with_reducible apply go_op)
           | (with_reducible apply go_next)
           | ((with_reducible (show evOp _ _ _ _ _ _)); first
             | ((with_reducible (show evOp _ (.move _) _ _ _ _)) ; first | ((with_reducible apply go_mv_int); rfl; rfl) | ((with_reducible apply go_mv_tup); rfl; rfl) | ((with_reducible apply go_mv_str); rfl; rfl))
             | ((with_reducible apply go_as))
             | ((with_reducible (show evOp _ (.load _ _) _ _ _ _)) ; first | ((with_reducible apply go_ld_agg); rfl; rfl; rfl; rfl) | ((with_reducible apply go_load_own); rfl; rfl; rfl; rfl))
             | (((with_reducible apply go_fieldAddr_own); rfl; rfl; rfl))
             | (((with_reducible apply go_cmp); rfl; rfl; rfl; rfl))
             | ((with_reducible (show evOp _ (.call _) _ _ _ _)) ; first | ((with_reducible apply go_len); rfl; rfl) | ((with_reducible apply go_fn_plain); rfl; (exact h1); rfl; (exact Nat.le_of_ble_eq_true rfl); rfl))
             | (((with_reducible apply go_extract); rfl; rfl))
             | (((with_reducible apply go_bx_agg); rfl; rfl; (exact Nat.le_of_ble_eq_true rfl); rfl; rfl)))
           | ((with_reducible (show evOps _ _ _ _ _ _)); first
             | (with_reducible apply go_nil))
           | ((with_reducible (show evG _ _ _ _ _)); first
             | (with_reducible apply go_seq)
             | (with_reducible apply go_region)
             | ((with_reducible apply go_cond_f); rfl; rfl)
             | (with_reducible apply go_skipc)
             | (with_reducible apply go_block))
           | (with_reducible apply go_kseq)
  refine go_count s.pits.length (fun i => ⟨[(9, .int .i64 (bestE s.pits (fun p => decide (refE s p b.cls v = 0)) i)), (25, .int .i64 i), (23, .sl (s.pits.map encPit)), (24, .int .i64 s.pits.length), (6, .int .i64 v), (2, .op 0 0 0), (3, .op 1 0 0)], [(0, ⟨4, true, [encYard s]⟩), (1, ⟨5, true, [encBatch b]⟩)], 64, 62⟩) (fun i => True) (entails_eq (nx := 64) (k := 0) (ns := []) (ks := [9, 25, 23, 24, 6, 2, 3]) [(0, 0), (32, 1)] rfl (by simp) (by kernel_rfl)) trivial ?_
  intro i hi _
  have hsp := bestE_spec (l := s.pits) (ok := fun p => decide (refE s p b.cls v = 0)) i hi
  by_cases hlt : i < s.pits.length
  · have hat := bestE_at (l := s.pits) (ok := fun p => decide (refE s p b.cls v = 0)) hlt
    generalize bestE s.pits (fun p => decide (refE s p b.cls v = 0)) i = c at *
    have hcb : -1 ≤ c ∧ c < i := by
      rcases hsp with e | ⟨j, _, h2, e, _⟩ <;> omega
    have hgd : ∀ h : c.toNat < s.pits.length, s.pits.getD c.toNat zeroP = s.pits[c.toNat] := fun h => by rw [List.getD_eq_getElem?_getD, List.getElem?_eq_getElem h]; rfl
    have hri := hrf i hlt
    repeat' first
           | (with_reducible apply go_op)
           | (with_reducible apply go_next)
           | ((with_reducible (show evOp _ _ _ _ _ _)); first
             | ((with_reducible (show evOp _ (.move _) _ _ _ _)) ; first | ((with_reducible apply go_mv_int); rfl; rfl) | ((with_reducible apply go_mv_bool); rfl; rfl) | ((with_reducible apply go_mv_str); rfl; rfl))
             | ((with_reducible apply go_as))
             | ((with_reducible (show evOp _ (.load _ _) _ _ _ _)) ; first | ((with_reducible apply go_ld_ptr); rfl; rfl; rfl) | ((with_reducible apply go_ld_agg); rfl; rfl; rfl; rfl) | ((with_reducible apply go_load); rfl; rfl; rfl) | ((with_reducible apply go_load_own); rfl; rfl; rfl; rfl))
             | ((with_reducible (show evOp _ (.fieldAddr _ _ _) _ _ _ _)) ; first | ((with_reducible apply go_fieldAddr); rfl; rfl) | ((with_reducible apply go_fieldAddr_own); rfl; rfl; rfl))
             | ((with_reducible (show evOp _ (.indexAddr _ _ _) _ _ _ _)) ; first | ((with_reducible apply go_index_nat); rfl; rfl; (with_reducible rfl); (intro; rfl); rfl; omega; (intro hlt)) | ((with_reducible apply go_index); rfl; rfl; (intro; rfl); rfl; omega; intro hlt))
             | ((with_reducible (show evOp _ (.binOp _ _ _ _ _) _ _ _ _)) ; first | ((with_reducible apply go_cmp); rfl; rfl; rfl; rfl) | ((with_reducible apply go_add); rfl; rfl; rfl; omega))
             | (((with_reducible apply go_fn_int); rfl; (exact hri); rfl))
             | (((with_reducible apply go_st_agg); rfl; rfl; rfl; rfl; rfl; rfl; rfl))
             | (((with_reducible apply go_pick); rfl; rfl; rfl))
             | (((with_reducible apply go_alloc); rfl; rfl; rfl)))
           | ((with_reducible (show evOps _ _ _ _ _ _)); first
             | (with_reducible apply go_nil)
             | ((with_reducible apply go_run); rfl; rfl)
             | ((with_reducible apply go_pass); rfl; rfl; rfl)
             | ((with_reducible apply go_skip); rfl; rfl)
             | (((with_reducible apply go_guard); rfl) <;> (intro h; simp only [h, Bool.not_true, Bool.not_false]; (try with_reducible (refine ⟨rfl, ?_⟩)); try simp only [decide_eq_true_eq, decide_eq_false_iff_not, Bool.not_eq_true', Bool.not_eq_false', Bool.not_true, Bool.not_false] at h; try exact absurd trivial h))
             | ((with_reducible apply go_pre); rfl)
             | (with_reducible apply go_pre_nil)
             | ((with_reducible apply go_suf); rfl)
             | (with_reducible apply go_suf_nil))
           | ((with_reducible (show evG _ _ _ _ _)); first
             | (with_reducible apply go_seq)
             | (with_reducible apply go_region)
             | ((with_reducible apply go_cond_t); rfl; rfl)
             | ((with_reducible apply go_cond_f); rfl; rfl)
             | (((with_reducible apply go_cond); rfl) <;> (intro h; simp only [h]; try simp only [decide_eq_true_eq, decide_eq_false_iff_not, Bool.not_eq_true', Bool.not_eq_false', Bool.not_true, Bool.not_false] at h; try exact absurd trivial h))
             | ((with_reducible apply go_order); kernel_rfl; rfl)
             | (with_reducible apply go_ret)
             | (with_reducible apply go_skipc)
             | (with_reducible apply go_block)
             | (with_reducible apply go_exit))
           | (with_reducible apply go_kseq)
           | (with_reducible apply go_ksuf)
           | (with_reducible apply go_kseq_ret)
           | (with_reducible apply go_kblock)
           | (with_reducible apply go_kblock_exit)
           | (with_reducible apply go_kseq_exit)
           | ((with_reducible apply end_t2); rfl; rfl; rfl; rfl)
    all_goals first
      | exact absurd hlt (by omega)
      | (refine ⟨by omega, trivial, ?_⟩
         show Entails _ ⟨[(9, .int .i64 (bestE s.pits (fun p => decide (refE s p b.cls v = 0)) (i + 1))), (25, .int .i64 (i + 1 : Nat)), (23, .sl (s.pits.map encPit)), (24, .int .i64 s.pits.length), (6, .int .i64 v), (2, .op 0 0 0), (3, .op 1 0 0)], [(0, ⟨4, true, [encYard s]⟩), (1, ⟨5, true, [encBatch b]⟩)], 64, 62⟩
         rw [hat]
         first
           | rw [if_pos ⟨by simp only [decide_eq_true_eq]; assumption, by first | (left; omega) | (right; rw [hgd (by omega)]; assumption)⟩]
           | rw [if_neg fun hh => by
               have a1 := of_decide_eq_true hh.1
               first
                 | contradiction
                 | (rcases hh.2 with h2 | h2
                    · omega
                    · rw [hgd (by omega)] at h2; omega)]
         exact entails_eq (nx := 64) (k := 0) (ns := []) (ks := [9, 25, 23, 24, 6, 2, 3]) [(0, 0), (1, 1)] rfl (by simp) (by kernel_rfl))
      | trace_state
  · have e : i = s.pits.length := by omega
    subst e
    rw [← hbe] at hsp ⊢
    have hcb : best = -1 ∨ 0 ≤ best ∧ best < s.pits.length := by
      rcases hsp with e | ⟨j, _, h2, e, _⟩ <;> omega
    have hgd : ∀ h : best.toNat < s.pits.length, s.pits.getD best.toNat zeroP = s.pits[best.toNat] := fun h => by rw [List.getD_eq_getElem?_getD, List.getElem?_eq_getElem h]; rfl
    repeat' first
           | (with_reducible apply go_op)
           | (with_reducible apply go_next)
           | ((with_reducible (show evOp _ _ _ _ _ _)); first
             | ((with_reducible (show evOp _ (.move _) _ _ _ _)) ; first | ((with_reducible apply go_mv_int); rfl; rfl) | ((with_reducible apply go_mv_str); rfl; rfl))
             | ((with_reducible apply go_as))
             | ((with_reducible (show evOp _ (.load _ _) _ _ _ _)) ; first | ((with_reducible apply go_ld_ptr); rfl; rfl; rfl) | ((with_reducible apply go_ld_agg); rfl; rfl; rfl; rfl) | ((with_reducible apply go_load); rfl; rfl; rfl) | ((with_reducible apply go_load_own); rfl; rfl; rfl; rfl))
             | ((with_reducible (show evOp _ (.fieldAddr _ _ _) _ _ _ _)) ; first | ((with_reducible apply go_fieldAddr); rfl; rfl) | ((with_reducible apply go_fieldAddr_own); rfl; rfl; rfl))
             | ((with_reducible (show evOp _ (.indexAddr _ _ _) _ _ _ _)) ; first | ((with_reducible apply go_index_nat); rfl; rfl; (with_reducible rfl); (intro; rfl); rfl; omega; (intro hlt)) | ((with_reducible apply go_index); rfl; rfl; (intro; rfl); rfl; omega; intro hlt))
             | (((with_reducible apply go_cmp); rfl; rfl; rfl; rfl))
             | (((with_reducible apply go_st_agg); rfl; rfl; rfl; rfl; rfl; rfl; rfl))
             | (((with_reducible apply go_alloc); rfl; rfl; rfl)))
           | ((with_reducible (show evOps _ _ _ _ _ _)); first
             | (with_reducible apply go_nil)
             | ((with_reducible apply go_pre); rfl))
           | ((with_reducible (show evG _ _ _ _ _)); first
             | (with_reducible apply go_seq)
             | (with_reducible apply go_region)
             | (((with_reducible apply go_cond); rfl) <;> (intro h; simp only [h]; try simp only [decide_eq_true_eq, decide_eq_false_iff_not, Bool.not_eq_true', Bool.not_eq_false', Bool.not_true, Bool.not_false] at h; try exact absurd trivial h))
             | ((with_reducible apply go_order); kernel_rfl; rfl)
             | (with_reducible apply go_ret)
             | (with_reducible apply go_skipc)
             | (with_reducible apply go_block)
             | (with_reducible apply go_exit))
           | (with_reducible apply go_kseq)
           | (with_reducible apply go_kseq_ret)
           | (with_reducible apply go_kblock_exit)
           | (with_reducible apply go_kseq_exit)
           | ((with_reducible apply end_t2); rfl; rfl; rfl; rfl)
    all_goals first
      | exact absurd hlt (by omega)
      | (rw [if_pos (by omega), if_pos (by omega)]; rfl)
      | (rw [if_neg (by omega), if_neg (by omega), hgd (by omega)]; rfl)
      | trace_state
end Go.Pv.Soil

open Go Go.Proofs Go.Pv
set_option maxHeartbeats 4000000
set_option maxRecDepth 100000
set_option linter.unusedSimpArgs false
set_option linter.unusedVariables false
namespace Go.Pv.Soil
theorem k_checkList (s : Yard) (l : List Batch) (most : Int) (g : FuncId) (hs : OkYard s) (hb : ∀ b ∈ l, OkBatch s b) (hd : l.Pairwise fun x y => x.number ≠ y.number) (hl : l.length ≤ most ∧ l.length < 1000000000000) (hg : ∀ n, Contract Try.prog g [.int .i64 n] (.ret (.bool false))) :
    Contract Try.prog 26 [.agg (encYard s), .sl (l.map encBatch), .int .i64 most, .clo (.func g) [] []] (.ret (.int .i64 0)) := by
  have h1 := k_Check s hs
  have h20 := hs.b20
  refine contract_of mix Try.func26 rfl rfl (by rw [Try.ntmps26]; exact Nat.le_of_ble_eq_true rfl) ?_; rw [Try.results26, Try.ntmps26]; simp only [argsE, Nat.reduceAdd]
  repeat' first
           | ((with_reducible (show evG _ _ (.region 6 _ _) _ _)); (with_reducible apply go_regionM))
           | ((with_reducible apply goM_makeMap); rfl)
           | (with_reducible apply goM_op)
           | (with_reducible apply goM_next)
           | (with_reducible apply goM_nil)
           | (with_reducible apply go_op)
           | (with_reducible apply go_next)
           | ((with_reducible (show evOp _ _ _ _ _ _)); first
             | ((with_reducible (show evOp _ (.move _) _ _ _ _)) ; first | ((with_reducible apply go_mv_int); rfl; rfl) | ((with_reducible apply go_mv_sl); rfl; rfl) | ((with_reducible apply go_mv_om); rfl; rfl))
             | ((with_reducible apply go_as))
             | (((with_reducible apply go_ld_agg); rfl; rfl; rfl; rfl))
             | (((with_reducible apply go_cmp); rfl; rfl; rfl; rfl))
             | ((with_reducible (show evOp _ (.call _) _ _ _ _)) ; first | ((with_reducible apply go_len); rfl; rfl) | ((with_reducible apply go_fn_int); rfl; (exact h1); rfl))
             | (((with_reducible apply go_bx_agg); rfl; rfl; (exact Nat.le_of_ble_eq_true rfl); rfl; rfl)))
           | ((with_reducible (show evOps _ _ _ _ _ _)); first
             | (with_reducible apply go_nil))
           | ((with_reducible (show evG _ _ _ _ _)); first
             | (with_reducible apply go_seq)
             | (with_reducible apply go_region)
             | ((with_reducible apply go_cond_f); rfl; rfl)
             | (((with_reducible apply go_cond); rfl) <;> (intro h; simp only [h]; try simp only [decide_eq_true_eq, decide_eq_false_iff_not, Bool.not_eq_true', Bool.not_eq_false', Bool.not_true, Bool.not_false] at h; try exact absurd trivial h))
             | (with_reducible apply go_ret)
             | (with_reducible apply go_skipc)
             | (with_reducible apply go_block))
           | (with_reducible apply go_kseq)
           | (with_reducible apply go_kseq_ret)
           | ((with_reducible apply end_int); rfl)
  all_goals try (exfalso; omega)
  refine go_count l.length (fun i => ⟨[(10, .om 0), (26, .int .i64 i), (24, .sl (l.map encBatch)), (25, .int .i64 l.length), (4, .op 1 0 0), (3, .clo (.func g) [] [])], [(0, ⟨0, true, (l.take i).map fun x => [.int .i64 x.number, .bool true]⟩), (1, ⟨4, true, [encYard s]⟩)], 32, 50⟩) (fun i => True) (entails_eq (nx := 32) (k := 0) (ns := []) (ks := [10, 26, 24, 25, 4, 3]) [(352, 0), (0, 1)] rfl (by simp) (by kernel_rfl)) trivial ?_
  intro i hi _
  by_cases hlt : i < l.length
  · have hbi := k_checkBatch s l[i] h20 (hb _ (List.getElem_mem _))
    have hf := findR_intN (nm := fun x : Batch => x.number) (take_names hd hlt)
    repeat' first
           | ((with_reducible apply go_lookup); rfl; rfl; rfl; rfl; (exact hf); rfl; rfl)
           | (with_reducible apply go_op)
           | (with_reducible apply go_next)
           | ((with_reducible (show evOp _ _ _ _ _ _)); first
             | ((with_reducible (show evOp _ (.move _) _ _ _ _)) ; first | ((with_reducible apply go_mv_int); rfl; rfl) | ((with_reducible apply go_mv_bool); rfl; rfl) | ((with_reducible apply go_mv_clo); rfl; rfl) | ((with_reducible apply go_mv_om); rfl; rfl))
             | ((with_reducible apply go_as))
             | ((with_reducible (show evOp _ (.load _ _) _ _ _ _)) ; first | ((with_reducible apply go_ld_ptr); rfl; rfl; rfl) | ((with_reducible apply go_ld_agg); rfl; rfl; rfl; rfl) | ((with_reducible apply go_load_own); rfl; rfl; rfl; rfl))
             | (((with_reducible apply go_fieldAddr_own); rfl; rfl; rfl))
             | (((with_reducible apply go_index_nat); rfl; rfl; (with_reducible rfl); (intro; rfl); rfl; omega; (intro hlt)))
             | (((with_reducible apply go_cmp); rfl; rfl; rfl; rfl))
             | (((with_reducible apply go_fn_int); rfl; (exact hbi); rfl))
             | (((with_reducible apply go_st_agg); rfl; rfl; rfl; rfl; rfl; rfl; rfl))
             | (((with_reducible apply go_alloc); rfl; rfl; rfl)))
           | ((with_reducible (show evOps _ _ _ _ _ _)); first
             | (with_reducible apply go_nil)
             | ((with_reducible apply go_run); rfl; rfl))
           | ((with_reducible (show evG _ _ _ _ _)); first
             | (with_reducible apply go_seq)
             | (with_reducible apply go_region)
             | ((with_reducible apply go_cond_f); rfl; rfl)
             | (((with_reducible apply go_cond); rfl) <;> (intro h; simp only [h]; try simp only [decide_eq_true_eq, decide_eq_false_iff_not, Bool.not_eq_true', Bool.not_eq_false', Bool.not_true, Bool.not_false] at h; try exact absurd trivial h))
             | (with_reducible apply go_ret)
             | (with_reducible apply go_skipc)
             | (with_reducible apply go_block)
             | (with_reducible apply go_exit))
           | (with_reducible apply go_kseq)
           | (with_reducible apply go_kblock_exit)
           | (with_reducible apply go_kseq_exit)
           | ((with_reducible apply end_int); rfl)
           | (with_reducible rfl)
    all_goals try exact absurd hlt (by omega)
    refine go_clo_bool (d1 := .int .i64 l[i].number) rfl rfl (fun _ _ => rfl) (hg _) rfl ?_
    repeat' first
           | ((with_reducible (show evG _ _ (.region 15 _ _) _ _)); (with_reducible apply go_regionM))
           | ((with_reducible apply goM_mapPut); rfl; rfl; rfl; rfl; rfl; rfl; (exact hf); rfl)
           | (with_reducible apply goM_op)
           | (with_reducible apply goM_next)
           | (with_reducible apply goM_nil)
           | (with_reducible apply go_op)
           | (with_reducible apply go_next)
           | ((with_reducible (show evOp _ _ _ _ _ _)); first
             | ((with_reducible (show evOp _ (.move _) _ _ _ _)) ; first | ((with_reducible apply go_mv_int); rfl; rfl) | ((with_reducible apply go_mv_om); rfl; rfl))
             | (((with_reducible apply go_load_own); rfl; rfl; rfl; rfl))
             | (((with_reducible apply go_fieldAddr_own); rfl; rfl; rfl))
             | (((with_reducible apply go_add); rfl; rfl; rfl; omega))
             | (((with_reducible apply go_pick); rfl; rfl; rfl)))
           | ((with_reducible (show evOps _ _ _ _ _ _)); first
             | (with_reducible apply go_nil))
           | ((with_reducible (show evG _ _ _ _ _)); first
             | (with_reducible apply go_region)
             | ((with_reducible apply go_cond_f); rfl; rfl)
             | (with_reducible apply go_skipc))
           | (with_reducible apply go_kseq)
           | (with_reducible apply go_kblock)
    all_goals first
      | exact absurd hlt (by omega)
      | (refine ⟨by omega, trivial, ?_⟩
         show Entails _ ⟨[(10, .om 0), (26, .int .i64 (i + 1 : Nat)), (24, .sl (l.map encBatch)), (25, .int .i64 l.length), (4, .op 1 0 0), (3, .clo (.func g) [] [])], [(0, ⟨0, true, (l.take (i + 1)).map fun x => [.int .i64 x.number, .bool true]⟩), (1, ⟨4, true, [encYard s]⟩)], 32, 50⟩
         rw [List.take_succ_eq_append_getElem (by omega), List.map_append]
         exact entails_eq (nx := 32) (k := 0) (ns := []) (ks := [10, 26, 24, 25, 4, 3]) [(0, 0), (1, 1)] rfl (by simp) (by kernel_rfl))
      | trace_state
  · repeat' first
           | (with_reducible apply go_op)
           | (with_reducible apply go_next)
           | ((with_reducible (show evOp _ _ _ _ _ _)); first
             | (((with_reducible apply go_mv_int); rfl; rfl))
             | ((with_reducible apply go_as))
             | ((with_reducible (show evOp _ (.load _ _) _ _ _ _)) ; first | ((with_reducible apply go_ld_ptr); rfl; rfl; rfl) | ((with_reducible apply go_ld_agg); rfl; rfl; rfl; rfl))
             | (((with_reducible apply go_index_nat); rfl; rfl; (with_reducible rfl); (intro; rfl); rfl; omega; (intro hlt)))
             | (((with_reducible apply go_cmp); rfl; rfl; rfl; rfl))
             | (((with_reducible apply go_st_agg); rfl; rfl; rfl; rfl; rfl; rfl; rfl))
             | (((with_reducible apply go_alloc); rfl; rfl; rfl)))
           | ((with_reducible (show evOps _ _ _ _ _ _)); first
             | (with_reducible apply go_nil))
           | ((with_reducible (show evG _ _ _ _ _)); first
             | (with_reducible apply go_seq)
             | (with_reducible apply go_region)
             | (((with_reducible apply go_cond); rfl) <;> (intro h; simp only [h]; try simp only [decide_eq_true_eq, decide_eq_false_iff_not, Bool.not_eq_true', Bool.not_eq_false', Bool.not_true, Bool.not_false] at h; try exact absurd trivial h))
             | (with_reducible apply go_ret)
             | (with_reducible apply go_skipc)
             | (with_reducible apply go_block)
             | (with_reducible apply go_exit))
           | (with_reducible apply go_kseq)
           | (with_reducible apply go_kblock_exit)
           | (with_reducible apply go_kseq_exit)
           | ((with_reducible apply end_int); rfl)
           | (with_reducible rfl)
    all_goals first
      | exact absurd hlt (by omega)
      | rfl
      | trace_state
theorem k_other (n : Int) : Contract Try.prog 27 [.int .i64 n] (.ret (.bool false)) := by
  refine contract_of mix Try.func27 rfl rfl (by rw [Try.ntmps27]; exact Nat.le_of_ble_eq_true rfl) ?_; rw [Try.results27, Try.ntmps27]; simp only [argsE, Nat.reduceAdd]
  repeat' first
           | (with_reducible apply go_op)
           | (with_reducible apply go_next)
           | ((with_reducible (show evOp _ _ _ _ _ _)); first
             | (((with_reducible apply go_mv_bool); rfl; rfl))
             | ((with_reducible apply go_as)))
           | ((with_reducible (show evOps _ _ _ _ _ _)); first
             | (with_reducible apply go_nil))
           | ((with_reducible (show evG _ _ _ _ _)); first
             | (with_reducible apply go_seq)
             | (with_reducible apply go_region)
             | (with_reducible apply go_ret))
           | (with_reducible apply go_kseq)
           | ((with_reducible apply end_bool); rfl)
           | (with_reducible rfl)
end Go.Pv.Soil

open Go Go.Proofs Go.Pv
set_option maxHeartbeats 4000000
set_option maxRecDepth 100000
set_option linter.unusedSimpArgs false
set_option linter.unusedVariables false
namespace Go.Pv.Soil
/-- What the deposits of a batch hold, of the first ones. -/
def plcA (l : List Dep) (n : Int) : Nat → Int
  | 0 => 0
  | i + 1 => plcA l n i + (match l[i]? with
    | some d => if d.batch = n then d.vol else 0
    | none => 0)
theorem plcA_at {l : List Dep} {n : Int} {i : Nat} (h : i < l.length) : plcA l n (i + 1) = plcA l n i + if l[i].batch = n then l[i].vol else 0 := by
  simp only [plcA, List.getElem?_eq_getElem h]
theorem plcA_bd {l : List Dep} {n : Int} (hd : ∀ d ∈ l, depOK d = true) : ∀ i, i ≤ l.length → 0 ≤ plcA l n i ∧ plcA l n i ≤ i * 100000000000000
  | 0, _ => by simp [plcA]
  | i + 1, h => by
    have ih := plcA_bd hd (n := n) i (by omega)
    rw [plcA_at (by omega)]
    have := of_decide_eq_true (hd l[i] (List.getElem_mem _))
    split <;> omega
/-- A balance under way, and the remainders. -/
structure Bal where
  bed : Int
  over : Int
  bulked : Int
  placed : Int
  carry : List Int
def balStep (s : Yard) (x : Bal) (b : Batch) : Bal :=
  match s.bulk[(bulkI s b.soil).toNat]?, x.carry[(bulkI s b.soil).toNat]? with
  | some f, some c => ⟨x.bed + b.bed, x.over + b.over, x.bulked + volE b f c, x.placed + plcA s.deps b.number s.deps.length, x.carry.set (bulkI s b.soil).toNat (carE b f c)⟩
  | _, _ => x
def balA (s : Yard) (l : List Batch) : Nat → Bal
  | 0 => ⟨0, 0, 0, 0, List.replicate s.bulk.length 0⟩
  | i + 1 => match l[i]? with
    | some b => balStep s (balA s l i) b
    | none => balA s l i
def encBal (x : Bal) : List D := [.int .i64 x.bed, .int .i64 x.over, .int .i64 x.bulked, .int .i64 x.placed]
/-- The bounds of a balance, and of its remainders. -/
def BalOK (s : Yard) (x : Bal) (i : Nat) : Prop := x.carry.length = s.bulk.length ∧ (∀ k (h : k < x.carry.length) (h' : k < s.bulk.length), 0 ≤ x.carry[k] ∧ x.carry[k] ≤ s.bulk[k].den - 1) ∧
  (0 ≤ x.bed ∧ x.bed ≤ i * 1000000000000) ∧ (0 ≤ x.over ∧ x.over ≤ i * 1000000000000) ∧ (0 ≤ x.bulked ∧ x.bulked ≤ i * 10000000000001000) ∧ (0 ≤ x.placed ∧ x.placed ≤ i * 20000000000000000)
theorem balStep_at {s : Yard} {x : Bal} {b : Batch} {k : Nat} (hk : bulkI s b.soil = k) (h1 : k < s.bulk.length) (h2 : k < x.carry.length) :
    balStep s x b = ⟨x.bed + b.bed, x.over + b.over, x.bulked + volE b s.bulk[k] x.carry[k], x.placed + plcA s.deps b.number s.deps.length, x.carry.set k (carE b s.bulk[k] x.carry[k])⟩ := by
  unfold balStep
  rw [hk]
  simp only [Int.toNat_natCast, List.getElem?_eq_getElem h1, List.getElem?_eq_getElem h2]
theorem balStep_ok {s : Yard} {x : Bal} {b : Batch} {i : Nat} (hs : OkYard s) (hb : OkBatch s b) (hx : BalOK s x i) : BalOK s (balStep s x b) (i + 1) := by
  obtain ⟨h1, h2, h3, h4, h5, h6⟩ := hx
  obtain ⟨k, hkl, hk, _⟩ := idxOf_at hb.soil
  rw [balStep_at hk hkl (by omega)]
  have hv := sumE_bd hb.bed hb.over (hs.bok _ (List.getElem_mem hkl)).1 (h2 k (by omega) hkl)
  have hp := plcA_bd (n := b.number) (fun d hd => (hs.dok d hd).1) s.deps.length (Nat.le_refl _)
  have h200 := hs.d200
  have hbed := hb.bed
  have hov := hb.over
  refine ⟨by simpa using h1, fun j hj hj' => ?_, by dsimp only; omega, by dsimp only; omega, by dsimp only; omega, by dsimp only; omega⟩
  simp only [List.getElem_set]
  split
  · rename_i e; subst e; omega
  · exact h2 j (by simpa using hj) hj'
theorem balA_ok {s : Yard} {l : List Batch} (hs : OkYard s) (hb : ∀ b ∈ l, OkBatch s b) : ∀ i, i ≤ l.length → BalOK s (balA s l i) i
  | 0, _ => by
    refine ⟨by simp [balA], fun k h h' => ?_, by simp [balA], by simp [balA], by simp [balA], by simp [balA]⟩
    have := of_decide_eq_true (hs.bok s.bulk[k] (List.getElem_mem _)).1
    simp only [balA, List.getElem_replicate]
    omega
  | i + 1, h => by
    simp only [balA, List.getElem?_eq_getElem (show i < l.length by omega)]
    exact balStep_ok hs (hb _ (List.getElem_mem _)) (balA_ok hs hb i (by omega))
theorem k_Balance (s : Yard) (l : List Batch) (hs : OkYard s) (hb : ∀ b ∈ l, OkBatch s b) (hd : l.Pairwise fun x y => x.number ≠ y.number) (hl : l.length ≤ 200) :
    Contract Try.prog 11 [.agg (encYard s), .sl (l.map encBatch)] (.ret (.tup [.agg (encBal (balA s l l.length)), .int .i64 0])) := by
  have h1 := k_checkList s l 200 27 hs hb hd (by omega) k_other
  have h20 := hs.b20
  have h200 := hs.d200
  refine contract_of mix Try.func11 rfl rfl (by rw [Try.ntmps11]; exact Nat.le_of_ble_eq_true rfl) ?_; rw [Try.results11, Try.ntmps11]; simp only [argsE, Nat.reduceAdd]
  repeat' first
           | (with_reducible apply go_op)
           | (with_reducible apply go_next)
           | ((with_reducible (show evOp _ _ _ _ _ _)); first
             | ((with_reducible (show evOp _ (.move _) _ _ _ _)) ; first | ((with_reducible apply go_mv_int); rfl; rfl) | ((with_reducible apply go_mv_sl); rfl; rfl))
             | ((with_reducible apply go_as))
             | ((with_reducible (show evOp _ (.load _ _) _ _ _ _)) ; first | ((with_reducible apply go_ld_agg); rfl; rfl; rfl; rfl) | ((with_reducible apply go_load_own); rfl; rfl; rfl; rfl))
             | (((with_reducible apply go_fieldAddr_own); rfl; rfl; rfl))
             | (((with_reducible apply go_cmp); rfl; rfl; rfl; rfl))
             | ((with_reducible (show evOp _ (.call _) _ _ _ _)) ; first | ((with_reducible apply go_len); rfl; rfl) | ((with_reducible apply go_fn_int); rfl; (exact h1); rfl))
             | (((with_reducible apply go_bx_agg); rfl; rfl; (exact Nat.le_of_ble_eq_true rfl); rfl; rfl))
             | (((with_reducible apply go_alloc); rfl; rfl; rfl)))
           | ((with_reducible (show evOps _ _ _ _ _ _)); first
             | (with_reducible apply go_nil))
           | ((with_reducible (show evG _ _ _ _ _)); first
             | (with_reducible apply go_seq)
             | (with_reducible apply go_region)
             | ((with_reducible apply go_cond_f); rfl; rfl)
             | (with_reducible apply go_skipc))
           | (with_reducible apply go_kseq)
  refine go_makeN (z := .int .i64 0) rfl rfl (by kernel_rfl) rfl rfl (by kernel_rfl) (by omega) rfl ?_
  rw [show List.replicate s.bulk.length (cellsD (.int .i64 0)) = (List.replicate s.bulk.length (0 : Int)).map encI by simp [encI, cellsD]]
  repeat' first
           | (with_reducible apply go_op)
           | (with_reducible apply go_next)
           | ((with_reducible (show evOp _ _ _ _ _ _)); first
             | ((with_reducible (show evOp _ (.move _) _ _ _ _)) ; first | ((with_reducible apply go_mv_int); rfl; rfl) | ((with_reducible apply go_mv_sl); rfl; rfl) | ((with_reducible apply go_mv_os); rfl; rfl))
             | ((with_reducible apply go_as))
             | (((with_reducible apply go_len); rfl; rfl)))
           | ((with_reducible (show evOps _ _ _ _ _ _)); first
             | (with_reducible apply go_nil))
           | ((with_reducible (show evG _ _ _ _ _)); first
             | (with_reducible apply go_seq)
             | (with_reducible apply go_region)
             | (with_reducible apply go_block))
           | (with_reducible apply go_kseq)
  refine go_count l.length (fun i => ⟨[(26, .int .i64 i), (25, .int .i64 l.length), (24, .sl (l.map encBatch)), (8, .os 3 0 s.bulk.length), (7, .op 2 0 0), (2, .op 0 0 0), (4, .op 1 0 0)], [(0, ⟨4, true, [encYard s]⟩), (1, ⟨4, true, [[.int .i64 0, .int .i64 0, .int .i64 0, .int .i64 0]]⟩), (2, ⟨4, true, [encBal (balA s l i)]⟩), (3, ⟨1, true, (balA s l i).carry.map encI⟩)], 128, 71⟩) (fun i => True) (entails_eq (nx := 128) (k := 0) (ns := []) (ks := [26, 25, 24, 8, 7, 2, 4]) [(0, 0), (32, 1), (288, 2), (416, 3)] rfl (by simp) (by kernel_rfl)) trivial ?_
  intro i hi _
  have hx := balA_ok hs hb i hi
  by_cases hlt : i < l.length
  · have hat : balA s l (i + 1) = balStep s (balA s l i) l[i] := by simp only [balA, List.getElem?_eq_getElem hlt]
    have hbi := hb l[i] (List.getElem_mem _)
    generalize balA s l i = x at *
    obtain ⟨x1, x2, x3, x4, x5, x6⟩ := hx
    obtain ⟨k, hkl, hk, _⟩ := idxOf_at hbi.soil
    rw [balStep_at hk hkl (by omega)] at hat
    have hbk := k_bulked s l[i] x.carry true k h20 hbi hk hkl (hs.bok _ (List.getElem_mem _)).1 x1 (x2 k (by omega) hkl)
    have hv := sumE_bd hbi.bed hbi.over (hs.bok _ (List.getElem_mem hkl)).1 (x2 k (by omega) hkl)
    rw [show D.os 0 0 x.carry.length = D.os 0 0 s.bulk.length by rw [x1]] at hbk
    have hbed := hbi.bed
    have hov := hbi.over
    repeat' first
           | ((with_reducible apply (go_drawC 11 5 [[0, 1], [], [], []])); kernel_rfl; rfl)
           | ((with_reducible apply (go_linec_call (b := 3))); rfl; rfl; (exact scalR_I _); rfl; rfl; (exact hbk); rfl; rfl)
           | (with_reducible apply go_op)
           | (with_reducible apply go_next)
           | ((with_reducible (show evOp _ _ _ _ _ _)); first
             | ((with_reducible (show evOp _ (.move _) _ _ _ _)) ; first | ((with_reducible apply go_mv_int); rfl; rfl) | ((with_reducible apply go_mv_os); rfl; rfl))
             | ((with_reducible apply go_as))
             | ((with_reducible (show evOp _ (.load _ _) _ _ _ _)) ; first | ((with_reducible apply go_ld_ptr); rfl; rfl; rfl) | ((with_reducible apply go_ld_agg); rfl; rfl; rfl; rfl) | ((with_reducible apply go_load_own); rfl; rfl; rfl; rfl))
             | (((with_reducible apply go_fieldAddr_own); rfl; rfl; rfl))
             | (((with_reducible apply go_index_nat); rfl; rfl; (with_reducible rfl); (intro; rfl); rfl; omega; (intro hlt)))
             | ((with_reducible (show evOp _ (.binOp _ _ _ _ _) _ _ _ _)) ; first | ((with_reducible apply go_cmp); rfl; rfl; rfl; rfl) | ((with_reducible apply go_add); rfl; rfl; rfl; omega))
             | (((with_reducible apply go_len); rfl; rfl))
             | ((with_reducible (show evOp _ (.store _ _ _) _ _ _ _)) ; first | ((with_reducible apply go_st_agg); rfl; rfl; rfl; rfl; rfl; rfl; rfl) | ((with_reducible apply go_store); rfl; rfl; rfl; rfl; rfl; rfl; (exact Nat.le_of_ble_eq_true rfl); (first | exact Nat.le_of_ble_eq_true rfl | omega); rfl; rfl))
             | (((with_reducible apply go_alloc); rfl; rfl; rfl)))
           | ((with_reducible (show evOps _ _ _ _ _ _)); first
             | (with_reducible apply go_nil)
             | (with_reducible apply go_take)
             | (with_reducible apply go_take0))
           | ((with_reducible (show evG _ _ _ _ _)); first
             | (with_reducible apply go_seq)
             | (with_reducible apply go_region)
             | (((with_reducible apply go_cond); rfl) <;> (intro h; simp only [h]; try simp only [decide_eq_true_eq, decide_eq_false_iff_not, Bool.not_eq_true', Bool.not_eq_false', Bool.not_true, Bool.not_false] at h; try exact absurd trivial h))
             | (with_reducible apply go_ret)
             | (with_reducible apply go_skipc)
             | (with_reducible apply go_block)
             | (with_reducible apply go_exit))
           | (with_reducible apply go_klinec)
           | (with_reducible apply go_linec_drop)
           | (with_reducible apply go_linec_drop0)
           | (with_reducible apply go_linec)
           | (with_reducible apply go_linec_nil)
           | (with_reducible apply go_klc)
           | (with_reducible apply go_again_nil)
           | ((with_reducible apply go_again); rfl; (intro id'))
           | ((with_reducible apply go_kagain); rfl)
           | (with_reducible apply go_kseq)
           | (with_reducible apply go_kblock_exit)
           | (with_reducible apply go_kseq_exit)
           | ((with_reducible apply end_t2); rfl; rfl; rfl; rfl)
    all_goals try exact absurd hlt (by omega)
    refine go_count s.deps.length (fun j => ⟨[(53, .int .i64 j), (51, .sl (s.deps.map encDep)), (52, .int .i64 s.deps.length), (10, .op 4 0 0), (26, .int .i64 i), (25, .int .i64 l.length), (24, .sl (l.map encBatch)), (8, .os 3 0 s.bulk.length), (7, .op 2 0 0), (2, .op 0 0 0), (4, .op 1 0 0)], [(0, ⟨4, true, [encYard s]⟩), (1, ⟨4, true, [[.int .i64 0, .int .i64 0, .int .i64 0, .int .i64 0]]⟩), (2, ⟨4, true, [[.int .i64 (x.bed + l[i].bed), .int .i64 (x.over + l[i].over), .int .i64 (x.bulked + volE l[i] s.bulk[k] (x.carry[k]'(by omega))), .int .i64 (x.placed + plcA s.deps l[i].number j)]]⟩), (3, ⟨1, true, (x.carry.set k (carE l[i] s.bulk[k] (x.carry[k]'(by omega)))).map encI⟩), (4, ⟨5, true, [encBatch l[i]]⟩)], 160, 71⟩) (fun j => True) (entails_eq (nx := 160) (k := 0) (ns := []) (ks := [53, 51, 52, 10, 26, 25, 24, 8, 7, 2, 4]) [(0, 0), (1, 1), (2, 2), (3, 3), (224, 4)] rfl (by simp) (by rw [show x.placed + plcA s.deps l[i].number 0 = x.placed by simp [plcA]]; kernel_rfl)) trivial ?_
    intro j hj _
    have hp := plcA_bd (n := l[i].number) (fun d hd => (hs.dok d hd).1) j hj
    by_cases hlj : j < s.deps.length
    · have hpa := plcA_at (n := l[i].number) hlj
      have hdj := of_decide_eq_true (hs.dok s.deps[j] (List.getElem_mem _)).1
      generalize plcA s.deps l[i].number j = q at *
      repeat' first
           | (with_reducible apply go_op)
           | (with_reducible apply go_next)
           | ((with_reducible (show evOp _ _ _ _ _ _)); first
             | (((with_reducible apply go_mv_int); rfl; rfl))
             | ((with_reducible (show evOp _ (.load _ _) _ _ _ _)) ; first | ((with_reducible apply go_ld_ptr); rfl; rfl; rfl) | ((with_reducible apply go_load_own); rfl; rfl; rfl; rfl))
             | (((with_reducible apply go_fieldAddr_own); rfl; rfl; rfl))
             | (((with_reducible apply go_index_nat); rfl; rfl; (with_reducible rfl); (intro; rfl); rfl; omega; (intro hlt)))
             | ((with_reducible (show evOp _ (.binOp _ _ _ _ _) _ _ _ _)) ; first | ((with_reducible apply go_cmp); rfl; rfl; rfl; rfl) | ((with_reducible apply go_add); rfl; rfl; rfl; omega))
             | ((with_reducible (show evOp _ (.store _ _ _) _ _ _ _)) ; first | ((with_reducible apply go_st_agg); rfl; rfl; rfl; rfl; rfl; rfl; rfl) | ((with_reducible apply go_store); rfl; rfl; rfl; rfl; rfl; rfl; (exact Nat.le_of_ble_eq_true rfl); (first | exact Nat.le_of_ble_eq_true rfl | omega); rfl; rfl))
             | (((with_reducible apply go_alloc); rfl; rfl; rfl)))
           | ((with_reducible (show evOps _ _ _ _ _ _)); first
             | (with_reducible apply go_nil))
           | ((with_reducible (show evG _ _ _ _ _)); first
             | (with_reducible apply go_seq)
             | (with_reducible apply go_region)
             | (((with_reducible apply go_cond); rfl) <;> (intro h; simp only [h]; try simp only [decide_eq_true_eq, decide_eq_false_iff_not, Bool.not_eq_true', Bool.not_eq_false', Bool.not_true, Bool.not_false] at h; try exact absurd trivial h))
             | (with_reducible apply go_skipc)
             | (with_reducible apply go_block)
             | (with_reducible apply go_exit))
           | (with_reducible apply go_kseq)
           | (with_reducible apply go_kblock)
           | (with_reducible apply go_kblock_exit)
           | (with_reducible apply go_kseq_exit)
      all_goals first
        | exact absurd hlj (by omega)
        | (first | rw [if_pos (by assumption)] at hpa | (rw [if_neg (by assumption), Int.add_zero] at hpa)
           refine ⟨by omega, trivial, ?_⟩
           show Entails _ ⟨[(53, .int .i64 (j + 1 : Nat)), (51, .sl (s.deps.map encDep)), (52, .int .i64 s.deps.length), (10, .op 4 0 0), (26, .int .i64 i), (25, .int .i64 l.length), (24, .sl (l.map encBatch)), (8, .os 3 0 s.bulk.length), (7, .op 2 0 0), (2, .op 0 0 0), (4, .op 1 0 0)], [(0, ⟨4, true, [encYard s]⟩), (1, ⟨4, true, [[.int .i64 0, .int .i64 0, .int .i64 0, .int .i64 0]]⟩), (2, ⟨4, true, [[.int .i64 (x.bed + l[i].bed), .int .i64 (x.over + l[i].over), .int .i64 (x.bulked + volE l[i] s.bulk[k] (x.carry[k]'(by omega))), .int .i64 (x.placed + plcA s.deps l[i].number (j + 1))]]⟩), (3, ⟨1, true, (x.carry.set k (carE l[i] s.bulk[k] (x.carry[k]'(by omega)))).map encI⟩), (4, ⟨5, true, [encBatch l[i]]⟩)], 160, 71⟩
           rw [hpa]
           try rw [← Int.add_assoc]
           exact entails_eq (nx := 160) (k := 0) (ns := []) (ks := [53, 51, 52, 10, 26, 25, 24, 8, 7, 2, 4]) [(0, 0), (1, 1), (2, 2), (3, 3), (4, 4)] rfl (by simp) (by kernel_rfl))
        | trace_state
    · have ej : j = s.deps.length := by omega
      subst ej
      repeat' first
           | (with_reducible apply go_op)
           | (with_reducible apply go_next)
           | ((with_reducible (show evOp _ _ _ _ _ _)); first
             | (((with_reducible apply go_mv_int); rfl; rfl))
             | ((with_reducible (show evOp _ (.load _ _) _ _ _ _)) ; first | ((with_reducible apply go_ld_ptr); rfl; rfl; rfl) | ((with_reducible apply go_load_own); rfl; rfl; rfl; rfl))
             | (((with_reducible apply go_fieldAddr_own); rfl; rfl; rfl))
             | (((with_reducible apply go_index_nat); rfl; rfl; (with_reducible rfl); (intro; rfl); rfl; omega; (intro hlt)))
             | ((with_reducible (show evOp _ (.binOp _ _ _ _ _) _ _ _ _)) ; first | ((with_reducible apply go_cmp); rfl; rfl; rfl; rfl) | ((with_reducible apply go_add); rfl; rfl; rfl; omega))
             | ((with_reducible (show evOp _ (.store _ _ _) _ _ _ _)) ; first | ((with_reducible apply go_st_agg); rfl; rfl; rfl; rfl; rfl; rfl; rfl) | ((with_reducible apply go_store); rfl; rfl; rfl; rfl; rfl; rfl; (exact Nat.le_of_ble_eq_true rfl); (first | exact Nat.le_of_ble_eq_true rfl | omega); rfl; rfl))
             | (((with_reducible apply go_alloc); rfl; rfl; rfl)))
           | ((with_reducible (show evOps _ _ _ _ _ _)); first
             | (with_reducible apply go_nil))
           | ((with_reducible (show evG _ _ _ _ _)); first
             | (with_reducible apply go_seq)
             | (with_reducible apply go_region)
             | (((with_reducible apply go_cond); rfl) <;> (intro h; simp only [h]; try simp only [decide_eq_true_eq, decide_eq_false_iff_not, Bool.not_eq_true', Bool.not_eq_false', Bool.not_true, Bool.not_false] at h; try exact absurd trivial h))
             | (with_reducible apply go_skipc)
             | (with_reducible apply go_block)
             | (with_reducible apply go_exit))
           | (with_reducible apply go_kseq)
           | (with_reducible apply go_kblock)
           | (with_reducible apply go_kblock_exit)
           | (with_reducible apply go_kseq_exit)
      all_goals first
        | exact absurd hlj (by omega)
        | (refine ⟨by omega, trivial, ?_⟩
           show Entails _ ⟨[(26, .int .i64 (i + 1 : Nat)), (25, .int .i64 l.length), (24, .sl (l.map encBatch)), (8, .os 3 0 s.bulk.length), (7, .op 2 0 0), (2, .op 0 0 0), (4, .op 1 0 0)], [(0, ⟨4, true, [encYard s]⟩), (1, ⟨4, true, [[.int .i64 0, .int .i64 0, .int .i64 0, .int .i64 0]]⟩), (2, ⟨4, true, [encBal (balA s l (i + 1))]⟩), (3, ⟨1, true, (balA s l (i + 1)).carry.map encI⟩)], 128, 71⟩
           rw [hat]
           exact entails_eq (nx := 128) (k := 0) (ns := []) (ks := [26, 25, 24, 8, 7, 2, 4]) [(0, 0), (1, 1), (2, 2), (3, 3)] rfl (by simp) (by kernel_rfl))
        | trace_state
  · have e : i = l.length := by omega
    subst e
    repeat' first
           | (with_reducible apply go_op)
           | (with_reducible apply go_next)
           | ((with_reducible (show evOp _ _ _ _ _ _)); first
             | ((with_reducible (show evOp _ (.move _) _ _ _ _)) ; first | ((with_reducible apply go_mv_int); rfl; rfl) | ((with_reducible apply go_mv_os); rfl; rfl))
             | ((with_reducible apply go_as))
             | ((with_reducible (show evOp _ (.load _ _) _ _ _ _)) ; first | ((with_reducible apply go_ld_ptr); rfl; rfl; rfl) | ((with_reducible apply go_ld_agg); rfl; rfl; rfl; rfl) | ((with_reducible apply go_load_own); rfl; rfl; rfl; rfl))
             | (((with_reducible apply go_fieldAddr_own); rfl; rfl; rfl))
             | (((with_reducible apply go_index_nat); rfl; rfl; (with_reducible rfl); (intro; rfl); rfl; omega; (intro hlt)))
             | ((with_reducible (show evOp _ (.binOp _ _ _ _ _) _ _ _ _)) ; first | ((with_reducible apply go_cmp); rfl; rfl; rfl; rfl) | ((with_reducible apply go_add); rfl; rfl; rfl; omega))
             | ((with_reducible (show evOp _ (.store _ _ _) _ _ _ _)) ; first | ((with_reducible apply go_st_agg); rfl; rfl; rfl; rfl; rfl; rfl; rfl) | ((with_reducible apply go_store); rfl; rfl; rfl; rfl; rfl; rfl; (exact Nat.le_of_ble_eq_true rfl); (first | exact Nat.le_of_ble_eq_true rfl | omega); rfl; rfl))
             | (((with_reducible apply go_alloc); rfl; rfl; rfl)))
           | ((with_reducible (show evOps _ _ _ _ _ _)); first
             | (with_reducible apply go_nil)
             | ((with_reducible apply go_pre); rfl))
           | ((with_reducible (show evG _ _ _ _ _)); first
             | (with_reducible apply go_seq)
             | (with_reducible apply go_region)
             | (((with_reducible apply go_cond); rfl) <;> (intro h; simp only [h]; try simp only [decide_eq_true_eq, decide_eq_false_iff_not, Bool.not_eq_true', Bool.not_eq_false', Bool.not_true, Bool.not_false] at h; try exact absurd trivial h))
             | ((with_reducible apply go_order); kernel_rfl; rfl)
             | (with_reducible apply go_ret)
             | (with_reducible apply go_skipc)
             | (with_reducible apply go_block)
             | (with_reducible apply go_exit))
           | (with_reducible apply go_kseq)
           | (with_reducible apply go_kblock_exit)
           | (with_reducible apply go_kseq_exit)
           | ((with_reducible apply end_t2); rfl; rfl; rfl; rfl)
    all_goals first
      | exact absurd hlt (by omega)
      | rfl
      | trace_state
end Go.Pv.Soil

open Go Go.Proofs Go.Pv
set_option maxHeartbeats 4000000
set_option maxRecDepth 100000
set_option linter.unusedSimpArgs false
set_option linter.unusedVariables false
namespace Go.Pv.Soil
theorem k_firstAll {n : Nat} {f : Nat → Int} (h : firstE n f = 0) : ∀ j, j < n → f j = 0 := by
  induction n generalizing f with
  | zero => intro j hj; omega
  | succ n ih =>
    intro j hj
    simp only [firstE] at h
    by_cases h0 : f 0 = 0
    · rw [if_pos h0] at h
      cases j with
      | zero => exact h0
      | succ j => exact ih h j (by omega)
    · rw [if_neg h0] at h; exact absurd h h0
theorem r_Find (l : List Pit) (hl : l.length < 1000000000000) (v : ByteArray) : Contract Try.prog 21 [.sl (l.map encPit), .str v] (.ret (.int .i64 (idxOf (fun x => decide (x.name = v)) l))) := by
  refine contract_of mix Try.func21 rfl rfl (by rw [Try.ntmps21]; exact Nat.le_of_ble_eq_true rfl) ?_; rw [Try.results21, Try.ntmps21]; simp only [argsE, Nat.reduceAdd]
  repeat' first
           | (with_reducible apply go_op)
           | (with_reducible apply go_next)
           | ((with_reducible (show evOp _ _ _ _ _ _)); first
             | (((with_reducible apply go_mv_int); rfl; rfl))
             | ((with_reducible apply go_as)))
           | ((with_reducible (show evOps _ _ _ _ _ _)); first
             | (with_reducible apply go_nil))
           | ((with_reducible (show evG _ _ _ _ _)); first
             | (with_reducible apply go_seq)
             | (with_reducible apply go_region)
             | (with_reducible apply go_block))
           | (with_reducible apply go_kseq)
  refine go_count (l.length) (fun i => ⟨[(5, .int .i64 i), (0, .sl (l.map encPit)), (1, .str v)], [], 0, 20⟩) (fun i => ∀ j (hj : j < i) (hj' : j < l.length), decide (l[j].name = v) = false) (entails_eq (k := 0) (ns := []) (ks := [5, 0, 1]) [] rfl (by simp) rfl) (by omega) ?_
  intro i hi hC
  repeat' first
           | (with_reducible apply go_op)
           | (with_reducible apply go_next)
           | ((with_reducible (show evOp _ _ _ _ _ _)); first
             | ((with_reducible (show evOp _ (.move _) _ _ _ _)) ; first | ((with_reducible apply go_mv_int); rfl; rfl) | ((with_reducible apply go_mv_sl); rfl; rfl) | ((with_reducible apply go_mv_str); rfl; rfl))
             | ((with_reducible apply go_as))
             | (((with_reducible apply go_load); rfl; rfl; rfl))
             | (((with_reducible apply go_fieldAddr); rfl; rfl))
             | (((with_reducible apply go_index_nat); rfl; rfl; (with_reducible rfl); (intro; rfl); rfl; omega; (intro hlt)))
             | ((with_reducible (show evOp _ (.binOp _ _ _ _ _) _ _ _ _)) ; first | ((with_reducible apply go_cmp); rfl; rfl; rfl; rfl) | ((with_reducible apply go_add); rfl; rfl; rfl; omega) | ((with_reducible apply go_bin); rfl; rfl))
             | (((with_reducible apply go_len); rfl; rfl)))
           | ((with_reducible (show evOps _ _ _ _ _ _)); first
             | (with_reducible apply go_nil))
           | ((with_reducible (show evG _ _ _ _ _)); first
             | (with_reducible apply go_seq)
             | (with_reducible apply go_region)
             | (((with_reducible apply go_cond); rfl) <;> (intro h; simp only [h]; try simp only [decide_eq_true_eq, decide_eq_false_iff_not, Bool.not_eq_true', Bool.not_eq_false', Bool.not_true, Bool.not_false] at h; try exact absurd trivial h))
             | (with_reducible apply go_ret)
             | (with_reducible apply go_skipc)
             | (with_reducible apply go_block)
             | (with_reducible apply go_exit))
           | (with_reducible apply go_kseq)
           | (with_reducible apply go_kseq_ret)
           | (with_reducible apply go_kblock)
           | (with_reducible apply go_kblock_ret)
           | (with_reducible apply go_kblock_exit)
           | (with_reducible apply go_kseq_exit)
           | ((with_reducible apply end_int); rfl)
  · have h2 : i < l.length := by omega
    exact (idxOf_some (p := fun x => decide (x.name = v)) h2 (by simp; first | exact h | exact h.symm) fun j hj => hC j hj (by omega)).symm
  · have h2 : i < l.length := by omega
    refine ⟨by omega, fun j hj hj' => ?_, entails_eq (k := 0) (ns := []) (ks := [5, 0, 1]) [] rfl (by simp) rfl⟩
    rcases Nat.lt_succ_iff_lt_or_eq.1 hj with h' | rfl
    · exact hC j h' hj'
    · simp; first | exact h | exact fun e => h e.symm
  · refine (idxOf_none fun x hx => ?_).symm
    obtain ⟨j, hj, rfl⟩ := List.mem_iff_getElem.1 hx
    exact hC j (by omega) hj
theorem r_Factor (l : List Bulk) (hl : l.length < 1000000000000) (v : ByteArray) : Contract Try.prog 14 [.sl (l.map encBulk), .str v] (.ret (.int .i64 (idxOf (fun x => decide (x.soil = v)) l))) := by
  refine contract_of mix Try.func14 rfl rfl (by rw [Try.ntmps14]; exact Nat.le_of_ble_eq_true rfl) ?_; rw [Try.results14, Try.ntmps14]; simp only [argsE, Nat.reduceAdd]
  repeat' first
           | (with_reducible apply go_op)
           | (with_reducible apply go_next)
           | ((with_reducible (show evOp _ _ _ _ _ _)); first
             | (((with_reducible apply go_mv_int); rfl; rfl))
             | ((with_reducible apply go_as)))
           | ((with_reducible (show evOps _ _ _ _ _ _)); first
             | (with_reducible apply go_nil))
           | ((with_reducible (show evG _ _ _ _ _)); first
             | (with_reducible apply go_seq)
             | (with_reducible apply go_region)
             | (with_reducible apply go_block))
           | (with_reducible apply go_kseq)
  refine go_count (l.length) (fun i => ⟨[(5, .int .i64 i), (0, .sl (l.map encBulk)), (1, .str v)], [], 0, 20⟩) (fun i => ∀ j (hj : j < i) (hj' : j < l.length), decide (l[j].soil = v) = false) (entails_eq (k := 0) (ns := []) (ks := [5, 0, 1]) [] rfl (by simp) rfl) (by omega) ?_
  intro i hi hC
  repeat' first
           | (with_reducible apply go_op)
           | (with_reducible apply go_next)
           | ((with_reducible (show evOp _ _ _ _ _ _)); first
             | ((with_reducible (show evOp _ (.move _) _ _ _ _)) ; first | ((with_reducible apply go_mv_int); rfl; rfl) | ((with_reducible apply go_mv_sl); rfl; rfl) | ((with_reducible apply go_mv_str); rfl; rfl))
             | ((with_reducible apply go_as))
             | (((with_reducible apply go_load); rfl; rfl; rfl))
             | (((with_reducible apply go_fieldAddr); rfl; rfl))
             | (((with_reducible apply go_index_nat); rfl; rfl; (with_reducible rfl); (intro; rfl); rfl; omega; (intro hlt)))
             | ((with_reducible (show evOp _ (.binOp _ _ _ _ _) _ _ _ _)) ; first | ((with_reducible apply go_cmp); rfl; rfl; rfl; rfl) | ((with_reducible apply go_add); rfl; rfl; rfl; omega) | ((with_reducible apply go_bin); rfl; rfl))
             | (((with_reducible apply go_len); rfl; rfl)))
           | ((with_reducible (show evOps _ _ _ _ _ _)); first
             | (with_reducible apply go_nil))
           | ((with_reducible (show evG _ _ _ _ _)); first
             | (with_reducible apply go_seq)
             | (with_reducible apply go_region)
             | (((with_reducible apply go_cond); rfl) <;> (intro h; simp only [h]; try simp only [decide_eq_true_eq, decide_eq_false_iff_not, Bool.not_eq_true', Bool.not_eq_false', Bool.not_true, Bool.not_false] at h; try exact absurd trivial h))
             | (with_reducible apply go_ret)
             | (with_reducible apply go_skipc)
             | (with_reducible apply go_block)
             | (with_reducible apply go_exit))
           | (with_reducible apply go_kseq)
           | (with_reducible apply go_kseq_ret)
           | (with_reducible apply go_kblock)
           | (with_reducible apply go_kblock_ret)
           | (with_reducible apply go_kblock_exit)
           | (with_reducible apply go_kseq_exit)
           | ((with_reducible apply end_int); rfl)
  · have h2 : i < l.length := by omega
    exact (idxOf_some (p := fun x => decide (x.soil = v)) h2 (by simp; first | exact h | exact h.symm) fun j hj => hC j hj (by omega)).symm
  · have h2 : i < l.length := by omega
    refine ⟨by omega, fun j hj hj' => ?_, entails_eq (k := 0) (ns := []) (ks := [5, 0, 1]) [] rfl (by simp) rfl⟩
    rcases Nat.lt_succ_iff_lt_or_eq.1 hj with h' | rfl
    · exact hC j h' hj'
    · simp; first | exact h | exact fun e => h e.symm
  · refine (idxOf_none fun x hx => ?_).symm
    obtain ⟨j, hj, rfl⟩ := List.mem_iff_getElem.1 hx
    exact hC j (by omega) hj
theorem r_At (l : List Batch) (hl : l.length < 1000000000000) (v : Int) : Contract Try.prog 25 [.sl (l.map encBatch), .int .i64 v] (.ret (.int .i64 (idxOf (fun x => decide (x.number = v)) l))) := by
  refine contract_of mix Try.func25 rfl rfl (by rw [Try.ntmps25]; exact Nat.le_of_ble_eq_true rfl) ?_; rw [Try.results25, Try.ntmps25]; simp only [argsE, Nat.reduceAdd]
  repeat' first
           | (with_reducible apply go_op)
           | (with_reducible apply go_next)
           | ((with_reducible (show evOp _ _ _ _ _ _)); first
             | (((with_reducible apply go_mv_int); rfl; rfl))
             | ((with_reducible apply go_as)))
           | ((with_reducible (show evOps _ _ _ _ _ _)); first
             | (with_reducible apply go_nil))
           | ((with_reducible (show evG _ _ _ _ _)); first
             | (with_reducible apply go_seq)
             | (with_reducible apply go_region)
             | (with_reducible apply go_block))
           | (with_reducible apply go_kseq)
  refine go_count (l.length) (fun i => ⟨[(5, .int .i64 i), (0, .sl (l.map encBatch)), (1, .int .i64 v)], [], 0, 20⟩) (fun i => ∀ j (hj : j < i) (hj' : j < l.length), decide (l[j].number = v) = false) (entails_eq (k := 0) (ns := []) (ks := [5, 0, 1]) [] rfl (by simp) rfl) (by omega) ?_
  intro i hi hC
  repeat' first
           | (with_reducible apply go_op)
           | (with_reducible apply go_next)
           | ((with_reducible (show evOp _ _ _ _ _ _)); first
             | ((with_reducible (show evOp _ (.move _) _ _ _ _)) ; first | ((with_reducible apply go_mv_int); rfl; rfl) | ((with_reducible apply go_mv_sl); rfl; rfl))
             | ((with_reducible apply go_as))
             | (((with_reducible apply go_load); rfl; rfl; rfl))
             | (((with_reducible apply go_fieldAddr); rfl; rfl))
             | (((with_reducible apply go_index_nat); rfl; rfl; (with_reducible rfl); (intro; rfl); rfl; omega; (intro hlt)))
             | ((with_reducible (show evOp _ (.binOp _ _ _ _ _) _ _ _ _)) ; first | ((with_reducible apply go_cmp); rfl; rfl; rfl; rfl) | ((with_reducible apply go_add); rfl; rfl; rfl; omega))
             | (((with_reducible apply go_len); rfl; rfl)))
           | ((with_reducible (show evOps _ _ _ _ _ _)); first
             | (with_reducible apply go_nil))
           | ((with_reducible (show evG _ _ _ _ _)); first
             | (with_reducible apply go_seq)
             | (with_reducible apply go_region)
             | (((with_reducible apply go_cond); rfl) <;> (intro h; simp only [h]; try simp only [decide_eq_true_eq, decide_eq_false_iff_not, Bool.not_eq_true', Bool.not_eq_false', Bool.not_true, Bool.not_false] at h; try exact absurd trivial h))
             | (with_reducible apply go_ret)
             | (with_reducible apply go_skipc)
             | (with_reducible apply go_block)
             | (with_reducible apply go_exit))
           | (with_reducible apply go_kseq)
           | (with_reducible apply go_kseq_ret)
           | (with_reducible apply go_kblock)
           | (with_reducible apply go_kblock_ret)
           | (with_reducible apply go_kblock_exit)
           | (with_reducible apply go_kseq_exit)
           | ((with_reducible apply end_int); rfl)
  · have h2 : i < l.length := by omega
    exact (idxOf_some (p := fun x => decide (x.number = v)) h2 (by simp; first | exact h | exact h.symm) fun j hj => hC j hj (by omega)).symm
  · have h2 : i < l.length := by omega
    refine ⟨by omega, fun j hj hj' => ?_, entails_eq (k := 0) (ns := []) (ks := [5, 0, 1]) [] rfl (by simp) rfl⟩
    rcases Nat.lt_succ_iff_lt_or_eq.1 hj with h' | rfl
    · exact hC j h' hj'
    · simp; first | exact h | exact fun e => h e.symm
  · refine (idxOf_none fun x hx => ?_).symm
    obtain ⟨j, hj, rfl⟩ := List.mem_iff_getElem.1 hx
    exact hC j (by omega) hj
theorem r_Deposited (l : List Dep) (hl : l.length < 1000000000000) (v : Int) : Contract Try.prog 20 [.sl (l.map encDep), .int .i64 v] (.ret (.bool (l.any fun x => decide (x.batch = v)))) := by
  refine contract_of mix Try.func20 rfl rfl (by rw [Try.ntmps20]; exact Nat.le_of_ble_eq_true rfl) ?_; rw [Try.results20, Try.ntmps20]; simp only [argsE, Nat.reduceAdd]
  repeat' first
           | (with_reducible apply go_op)
           | (with_reducible apply go_next)
           | ((with_reducible (show evOp _ _ _ _ _ _)); first
             | ((with_reducible (show evOp _ (.move _) _ _ _ _)) ; first | ((with_reducible apply go_mv_int); rfl; rfl) | ((with_reducible apply go_mv_bool); rfl; rfl))
             | ((with_reducible apply go_as)))
           | ((with_reducible (show evOps _ _ _ _ _ _)); first
             | (with_reducible apply go_nil))
           | ((with_reducible (show evG _ _ _ _ _)); first
             | (with_reducible apply go_seq)
             | (with_reducible apply go_region)
             | (with_reducible apply go_block))
           | (with_reducible apply go_kseq)
  refine go_count (l.length) (fun i => ⟨[(5, .int .i64 i), (0, .sl (l.map encDep)), (1, .int .i64 v)], [], 0, 19⟩) (fun i => ∀ j (hj : j < i) (hj' : j < l.length), decide (l[j].batch = v) = false) (entails_eq (k := 0) (ns := []) (ks := [5, 0, 1]) [] rfl (by simp) rfl) (by omega) ?_
  intro i hi hC
  repeat' first
           | (with_reducible apply go_op)
           | (with_reducible apply go_next)
           | ((with_reducible (show evOp _ _ _ _ _ _)); first
             | ((with_reducible (show evOp _ (.move _) _ _ _ _)) ; first | ((with_reducible apply go_mv_int); rfl; rfl) | ((with_reducible apply go_mv_bool); rfl; rfl) | ((with_reducible apply go_mv_sl); rfl; rfl))
             | ((with_reducible apply go_as))
             | (((with_reducible apply go_load); rfl; rfl; rfl))
             | (((with_reducible apply go_fieldAddr); rfl; rfl))
             | (((with_reducible apply go_index_nat); rfl; rfl; (with_reducible rfl); (intro; rfl); rfl; omega; (intro hlt)))
             | ((with_reducible (show evOp _ (.binOp _ _ _ _ _) _ _ _ _)) ; first | ((with_reducible apply go_cmp); rfl; rfl; rfl; rfl) | ((with_reducible apply go_add); rfl; rfl; rfl; omega))
             | (((with_reducible apply go_len); rfl; rfl)))
           | ((with_reducible (show evOps _ _ _ _ _ _)); first
             | (with_reducible apply go_nil))
           | ((with_reducible (show evG _ _ _ _ _)); first
             | (with_reducible apply go_seq)
             | (with_reducible apply go_region)
             | (((with_reducible apply go_cond); rfl) <;> (intro h; simp only [h]; try simp only [decide_eq_true_eq, decide_eq_false_iff_not, Bool.not_eq_true', Bool.not_eq_false', Bool.not_true, Bool.not_false] at h; try exact absurd trivial h))
             | (with_reducible apply go_ret)
             | (with_reducible apply go_skipc)
             | (with_reducible apply go_block)
             | (with_reducible apply go_exit))
           | (with_reducible apply go_kseq)
           | (with_reducible apply go_kseq_ret)
           | (with_reducible apply go_kblock)
           | (with_reducible apply go_kblock_ret)
           | (with_reducible apply go_kblock_exit)
           | (with_reducible apply go_kseq_exit)
           | ((with_reducible apply end_bool); rfl)
  · have h2 : i < l.length := by omega
    symm
    exact List.any_eq_true.2 ⟨l[i], List.getElem_mem _, by simp; first | exact h | exact h.symm⟩
  · have h2 : i < l.length := by omega
    refine ⟨by omega, fun j hj hj' => ?_, entails_eq (k := 0) (ns := []) (ks := [5, 0, 1]) [] rfl (by simp) rfl⟩
    rcases Nat.lt_succ_iff_lt_or_eq.1 hj with h' | rfl
    · exact hC j h' hj'
    · simp; first | exact h | exact fun e => h e.symm
  · symm
    refine List.any_eq_false.2 fun x hx => ?_
    obtain ⟨j, hj, rfl⟩ := List.mem_iff_getElem.1 hx
    rw [hC j (by omega) hj]
    simp
theorem r_Capacity (p : Pit) (hp : pitOK p = true) : Contract Try.prog 23 [.agg (encPit p)] (.ret (.int .i64 (capE p))) := by
  have h := of_decide_eq_true hp
  have hm : 0 ≤ p.area * (p.high - p.low) ∧ p.area * (p.high - p.low) ≤ 40000000000000 := by
    refine ⟨Int.mul_nonneg (by omega) (by omega), ?_⟩
    have := Int.mul_le_mul h.1.2 (show p.high - p.low ≤ 40000 by omega) (by omega) (by omega)
    omega
  refine contract_of mix Try.func23 rfl rfl (by rw [Try.ntmps23]; exact Nat.le_of_ble_eq_true rfl) ?_; rw [Try.results23, Try.ntmps23]; simp only [argsE, Nat.reduceAdd]
  repeat' first
           | (with_reducible apply go_op)
           | (with_reducible apply go_next)
           | ((with_reducible (show evOp _ _ _ _ _ _)); first
             | (((with_reducible apply go_mv_int); rfl; rfl))
             | ((with_reducible apply go_as))
             | (((with_reducible apply go_load_own); rfl; rfl; rfl; rfl))
             | (((with_reducible apply go_fieldAddr_own); rfl; rfl; rfl))
             | ((with_reducible (show evOp _ (.binOp _ _ _ _ _) _ _ _ _)) ; first | ((with_reducible apply go_sub); rfl; rfl; rfl; omega) | ((with_reducible apply go_mul); rfl; rfl; rfl; omega))
             | (((with_reducible apply go_bx_agg); rfl; rfl; (exact Nat.le_of_ble_eq_true rfl); rfl; rfl)))
           | ((with_reducible (show evOps _ _ _ _ _ _)); first
             | (with_reducible apply go_nil))
           | ((with_reducible (show evG _ _ _ _ _)); first
             | (with_reducible apply go_seq)
             | (with_reducible apply go_region)
             | (with_reducible apply go_ret))
           | (with_reducible apply go_kseq)
           | ((with_reducible apply end_int); rfl)
  rfl
theorem r_Taken (s : Yard) (m : Nat) (hm : m < s.pits.length) (hl : s.deps.length ≤ 200) (hd : ∀ d ∈ s.deps, depOK d = true) : Contract Try.prog 22 [.agg (encYard s), .int .i64 m] (.ret (.int .i64 (takE s.deps s.pits[m].name))) := by
  refine contract_of mix Try.func22 rfl rfl (by rw [Try.ntmps22]; exact Nat.le_of_ble_eq_true rfl) ?_; rw [Try.results22, Try.ntmps22]; simp only [argsE, Nat.reduceAdd]
  repeat' first
           | (with_reducible apply go_op)
           | (with_reducible apply go_next)
           | ((with_reducible (show evOp _ _ _ _ _ _)); first
             | (((with_reducible apply go_mv_int); rfl; rfl))
             | ((with_reducible apply go_as))
             | (((with_reducible apply go_bx_agg); rfl; rfl; (exact Nat.le_of_ble_eq_true rfl); rfl; rfl)))
           | ((with_reducible (show evOps _ _ _ _ _ _)); first
             | (with_reducible apply go_nil))
           | ((with_reducible (show evG _ _ _ _ _)); first
             | (with_reducible apply go_seq)
             | (with_reducible apply go_region)
             | (with_reducible apply go_block))
           | (with_reducible apply go_kseq)
  refine go_count s.deps.length (fun i => ⟨[(5, .int .i64 (takA s.deps s.pits[m].name i)), (6, .int .i64 i), (2, .op 0 0 0), (1, .int .i64 m)], [(0, ⟨4, true, [encYard s]⟩)], 32, 36⟩) (fun i => True) (entails_eq (nx := 32) (k := 0) (ns := []) (ks := [5, 6, 2, 1]) [(0, 0)] rfl (by simp) (by kernel_rfl)) trivial ?_
  intro i hi _
  by_cases hlt : i < s.deps.length
  · have hb := takA_bd hd (n := s.pits[m].name) i hi
    have e := takA_at (n := s.pits[m].name) hlt
    have hv := of_decide_eq_true (hd s.deps[i] (List.getElem_mem _))
    generalize takA s.deps s.pits[m].name i = c at *
    repeat' first
           | (with_reducible apply go_op)
           | (with_reducible apply go_next)
           | ((with_reducible (show evOp _ _ _ _ _ _)); first
             | (((with_reducible apply go_mv_int); rfl; rfl))
             | ((with_reducible apply go_as))
             | ((with_reducible (show evOp _ (.load _ _) _ _ _ _)) ; first | ((with_reducible apply go_load); rfl; rfl; rfl) | ((with_reducible apply go_load_own); rfl; rfl; rfl; rfl))
             | ((with_reducible (show evOp _ (.fieldAddr _ _ _) _ _ _ _)) ; first | ((with_reducible apply go_fieldAddr); rfl; rfl) | ((with_reducible apply go_fieldAddr_own); rfl; rfl; rfl))
             | (((with_reducible apply go_index_nat); rfl; rfl; (with_reducible rfl); (intro; rfl); rfl; omega; (intro hlt)))
             | ((with_reducible (show evOp _ (.binOp _ _ _ _ _) _ _ _ _)) ; first | ((with_reducible apply go_cmp); rfl; rfl; rfl; rfl) | ((with_reducible apply go_add); rfl; rfl; rfl; omega) | ((with_reducible apply go_bin); rfl; rfl))
             | (((with_reducible apply go_len); rfl; rfl)))
           | ((with_reducible (show evOps _ _ _ _ _ _)); first
             | (with_reducible apply go_nil)
             | ((with_reducible apply go_pre); rfl)
             | (with_reducible apply go_pre_nil)
             | ((with_reducible apply go_suf); rfl)
             | (with_reducible apply go_suf_nil))
           | ((with_reducible (show evG _ _ _ _ _)); first
             | (with_reducible apply go_seq)
             | (with_reducible apply go_region)
             | (((with_reducible apply go_cond); rfl) <;> (intro h; simp only [h]; try simp only [decide_eq_true_eq, decide_eq_false_iff_not, Bool.not_eq_true', Bool.not_eq_false', Bool.not_true, Bool.not_false] at h; try exact absurd trivial h))
             | ((with_reducible apply go_order); kernel_rfl; rfl)
             | (with_reducible apply go_ret)
             | (with_reducible apply go_skipc)
             | (with_reducible apply go_block)
             | (with_reducible apply go_exit))
           | (with_reducible apply go_kseq)
           | (with_reducible apply go_ksuf)
           | (with_reducible apply go_kblock)
           | (with_reducible apply go_kblock_exit)
           | (with_reducible apply go_kseq_exit)
           | ((with_reducible apply end_int); rfl)
    all_goals first
      | exact absurd hlt (by omega)
      | (first | rw [if_pos (by assumption)] at e | (rw [if_neg (by assumption), Int.add_zero] at e)
         refine ⟨by omega, trivial, ?_⟩
         show Entails _ ⟨[(5, .int .i64 (takA s.deps s.pits[m].name (i + 1))), (6, .int .i64 (i + 1 : Nat)), (2, .op 0 0 0), (1, .int .i64 m)], [(0, ⟨4, true, [encYard s]⟩)], 32, 36⟩
         rw [e]
         exact entails_eq (nx := 32) (k := 0) (ns := []) (ks := [5, 6, 2, 1]) [(0, 0)] rfl (by simp) (by kernel_rfl))
      | trace_state
  · have e : i = s.deps.length := by omega
    subst e
    repeat' first
           | (with_reducible apply go_op)
           | (with_reducible apply go_next)
           | ((with_reducible (show evOp _ _ _ _ _ _)); first
             | (((with_reducible apply go_mv_int); rfl; rfl))
             | ((with_reducible apply go_as))
             | ((with_reducible (show evOp _ (.load _ _) _ _ _ _)) ; first | ((with_reducible apply go_load); rfl; rfl; rfl) | ((with_reducible apply go_load_own); rfl; rfl; rfl; rfl))
             | ((with_reducible (show evOp _ (.fieldAddr _ _ _) _ _ _ _)) ; first | ((with_reducible apply go_fieldAddr); rfl; rfl) | ((with_reducible apply go_fieldAddr_own); rfl; rfl; rfl))
             | (((with_reducible apply go_index_nat); rfl; rfl; (with_reducible rfl); (intro; rfl); rfl; omega; (intro hlt)))
             | ((with_reducible (show evOp _ (.binOp _ _ _ _ _) _ _ _ _)) ; first | ((with_reducible apply go_cmp); rfl; rfl; rfl; rfl) | ((with_reducible apply go_add); rfl; rfl; rfl; omega) | ((with_reducible apply go_bin); rfl; rfl))
             | (((with_reducible apply go_len); rfl; rfl)))
           | ((with_reducible (show evOps _ _ _ _ _ _)); first
             | (with_reducible apply go_nil)
             | ((with_reducible apply go_pre); rfl)
             | (with_reducible apply go_pre_nil)
             | ((with_reducible apply go_suf); rfl)
             | (with_reducible apply go_suf_nil))
           | ((with_reducible (show evG _ _ _ _ _)); first
             | (with_reducible apply go_seq)
             | (with_reducible apply go_region)
             | (((with_reducible apply go_cond); rfl) <;> (intro h; simp only [h]; try simp only [decide_eq_true_eq, decide_eq_false_iff_not, Bool.not_eq_true', Bool.not_eq_false', Bool.not_true, Bool.not_false] at h; try exact absurd trivial h))
             | ((with_reducible apply go_order); kernel_rfl; rfl)
             | (with_reducible apply go_ret)
             | (with_reducible apply go_skipc)
             | (with_reducible apply go_block)
             | (with_reducible apply go_exit))
           | (with_reducible apply go_kseq)
           | (with_reducible apply go_ksuf)
           | (with_reducible apply go_kblock)
           | (with_reducible apply go_kblock_exit)
           | (with_reducible apply go_kseq_exit)
           | ((with_reducible apply end_int); rfl)
    all_goals first
      | exact absurd hlt (by omega)
      | rfl
      | trace_state
def batErrE (s : Yard) (b : Batch) : Int := if ¬ ((1 ≤ b.number ∧ b.number ≤ 1000000) ∧ (0 ≤ b.bed ∧ b.bed ≤ 1000000000000) ∧ (0 ≤ b.over ∧ b.over ≤ b.bed)) then 2 else if bulkI s b.soil < 0 then 6 else if ¬ (0 ≤ b.cls ∧ b.cls ≤ 9) then 2 else 0
theorem batErr_ok {s : Yard} {b : Batch} (h : batErrE s b = 0) : OkBatch s b := by
  unfold batErrE at h
  split at h
  · simp at h
  · rename_i h1
    have h1 := Classical.not_not.1 h1
    split at h
    · simp at h
    · split at h
      · simp at h
      · rename_i h2 h3
        exact ⟨h1.1, h1.2.1, h1.2.2, by omega, Classical.not_not.1 h3⟩
theorem r_BatchErr (s : Yard) (b : Batch) (h20 : s.bulk.length ≤ 1000) : Contract Try.prog 24 [.agg (encYard s), .agg (encBatch b)] (.ret (.int .i64 (batErrE s b))) := by
  have hf : Contract Try.prog 14 _ (.ret (.int .i64 (bulkI s b.soil))) := r_Factor s.bulk (by omega) b.soil
  refine contract_of mix Try.func24 rfl rfl (by rw [Try.ntmps24]; exact Nat.le_of_ble_eq_true rfl) ?_; rw [Try.results24, Try.ntmps24]; simp only [argsE, Nat.reduceAdd]
  repeat' first
           | (with_reducible apply go_op)
           | (with_reducible apply go_next)
           | ((with_reducible (show evOp _ _ _ _ _ _)); first
             | ((with_reducible (show evOp _ (.move _) _ _ _ _)) ; first | ((with_reducible apply go_mv_int); rfl; rfl) | ((with_reducible apply go_mv_bool); rfl; rfl))
             | ((with_reducible apply go_as))
             | (((with_reducible apply go_load_own); rfl; rfl; rfl; rfl))
             | (((with_reducible apply go_fieldAddr_own); rfl; rfl; rfl))
             | (((with_reducible apply go_cmp); rfl; rfl; rfl; rfl))
             | ((with_reducible (show evOp _ (.call _) _ _ _ _)) ; first | ((with_reducible apply go_fn_bool); rfl; (exact c38 _ _ _); rfl) | ((with_reducible apply go_fn_int); rfl; (exact hf); rfl))
             | (((with_reducible apply go_not); rfl; rfl))
             | (((with_reducible apply go_pick); rfl; rfl; rfl))
             | (((with_reducible apply go_bx_agg); rfl; rfl; (exact Nat.le_of_ble_eq_true rfl); rfl; rfl)))
           | ((with_reducible (show evOps _ _ _ _ _ _)); first
             | (with_reducible apply go_nil)
             | ((with_reducible apply go_run); rfl; rfl)
             | ((with_reducible apply go_pass); rfl; rfl; rfl)
             | (((with_reducible apply go_guard); rfl) <;> (intro h; simp only [h, Bool.not_true, Bool.not_false]; (try with_reducible (refine ⟨rfl, ?_⟩)); try simp only [decide_eq_true_eq, decide_eq_false_iff_not, Bool.not_eq_true', Bool.not_eq_false', Bool.not_true, Bool.not_false] at h; try exact absurd trivial h)))
           | ((with_reducible (show evG _ _ _ _ _)); first
             | (with_reducible apply go_seq)
             | (with_reducible apply go_region)
             | ((with_reducible apply go_cond_t); rfl; rfl)
             | (((with_reducible apply go_cond); rfl) <;> (intro h; simp only [h]; try simp only [decide_eq_true_eq, decide_eq_false_iff_not, Bool.not_eq_true', Bool.not_eq_false', Bool.not_true, Bool.not_false] at h; try exact absurd trivial h))
             | (with_reducible apply go_ret)
             | (with_reducible apply go_skipc))
           | (with_reducible apply go_kseq)
           | (with_reducible apply go_kseq_ret)
           | ((with_reducible apply end_int); rfl)
  all_goals first
    | (unfold batErrE; rw [if_pos (by omega)])
    | (unfold batErrE; rw [if_neg (by omega), if_pos (by omega)])
    | (unfold batErrE; rw [if_neg (by omega), if_neg (by omega), if_pos (by omega)])
    | (unfold batErrE; rw [if_neg (by omega), if_neg (by omega), if_neg (by omega)])
    | trace_state
def clsErr (l : List Int) (i : Nat) : Int := match l[i]? with
  | none => 0
  | some c => if ¬ (0 ≤ c ∧ c ≤ 9) then 2 else if 0 < i ∧ c ≤ l.getD (i - 1) 0 then 9 else 0
def pitErrE (p : Pit) (bef : List Pit) : Int := if nameOK p.name = false then 4 else if 0 ≤ idxOf (fun x => decide (x.name = p.name)) bef then 5 else
  if ¬ ((1 ≤ p.area ∧ p.area ≤ 1000000000) ∧ (-20000 ≤ p.low ∧ p.low ≤ 20000) ∧ (-20000 ≤ p.high ∧ p.high ≤ 20000)) then 2 else if p.high ≤ p.low then 9 else if ¬ (0 ≤ p.price ∧ p.price ≤ 10000) then 2 else firstE p.classes.length (clsErr p.classes)
theorem r_pitErr (p : Pit) (bef : List Pit) (hb : bef.length < 1000000000000) (hc : p.classes.length < 1000000000000) : Contract Try.prog 17 [.agg (encPit p), .sl (bef.map encPit)] (.ret (.int .i64 (pitErrE p bef))) := by
  have hf := r_Find bef hb p.name
  have hn := c83 p.name
  obtain ⟨nm, area, low, high, cls, price⟩ := p
  simp only at hf hn hc
  unfold pitErrE
  simp only
  generalize idxOf (fun x : Pit => decide (x.name = nm)) bef = fi at *
  refine contract_of mix Try.func17 rfl rfl (by rw [Try.ntmps17]; exact Nat.le_of_ble_eq_true rfl) ?_; rw [Try.results17, Try.ntmps17]; simp only [argsE, Nat.reduceAdd]
  repeat' first
           | (with_reducible apply go_op)
           | (with_reducible apply go_next)
           | ((with_reducible (show evOp _ _ _ _ _ _)); first
             | ((with_reducible (show evOp _ (.move _) _ _ _ _)) ; first | ((with_reducible apply go_mv_int); rfl; rfl) | ((with_reducible apply go_mv_bool); rfl; rfl) | ((with_reducible apply go_mv_sl); rfl; rfl))
             | ((with_reducible apply go_as))
             | (((with_reducible apply go_load_own); rfl; rfl; rfl; rfl))
             | (((with_reducible apply go_fieldAddr_own); rfl; rfl; rfl))
             | (((with_reducible apply go_cmp); rfl; rfl; rfl; rfl))
             | ((with_reducible (show evOp _ (.call _) _ _ _ _)) ; first | ((with_reducible apply go_fn_bool); rfl; (exact c38 _ _ _); rfl) | ((with_reducible apply go_fn_int); rfl; (exact hf); rfl) | ((with_reducible apply go_fn_bool); rfl; (exact hn); rfl))
             | (((with_reducible apply go_not); rfl; rfl))
             | (((with_reducible apply go_pick); rfl; rfl; rfl))
             | (((with_reducible apply go_bx_agg); rfl; rfl; (exact Nat.le_of_ble_eq_true rfl); rfl; rfl)))
           | ((with_reducible (show evOps _ _ _ _ _ _)); first
             | (with_reducible apply go_nil)
             | ((with_reducible apply go_run); rfl; rfl)
             | ((with_reducible apply go_pass); rfl; rfl; rfl)
             | (((with_reducible apply go_guard); rfl) <;> (intro h; simp only [h, Bool.not_true, Bool.not_false]; (try with_reducible (refine ⟨rfl, ?_⟩)); try simp only [decide_eq_true_eq, decide_eq_false_iff_not, Bool.not_eq_true', Bool.not_eq_false', Bool.not_true, Bool.not_false] at h; try exact absurd trivial h)))
           | ((with_reducible (show evG _ _ _ _ _)); first
             | (with_reducible apply go_seq)
             | (with_reducible apply go_region)
             | ((with_reducible apply go_cond_t); rfl; rfl)
             | (((with_reducible apply go_cond); rfl) <;> (intro h; simp only [h]; try simp only [decide_eq_true_eq, decide_eq_false_iff_not, Bool.not_eq_true', Bool.not_eq_false', Bool.not_true, Bool.not_false] at h; try exact absurd trivial h))
             | (with_reducible apply go_ret)
             | (with_reducible apply go_skipc)
             | (with_reducible apply go_block))
           | (with_reducible apply go_kseq)
           | (with_reducible apply go_kseq_ret)
           | ((with_reducible apply end_int); rfl)
  all_goals first
    | (rw [if_pos (by assumption)])
    | (rw [if_neg (by simp [*]), if_pos (by omega)])
    | (rw [if_neg (by simp [*]), if_neg (by omega), if_pos (by omega)])
    | (rw [if_neg (by simp [*]), if_neg (by omega), if_neg (by omega), if_pos (by omega)])
    | (rw [if_neg (by simp [*]), if_neg (by omega), if_neg (by omega), if_neg (by omega), if_pos (by omega)])
    | (rw [if_neg (by simp [*]), if_neg (by omega), if_neg (by omega), if_neg (by omega), if_neg (by omega)])
    | trace_state
  refine go_count cls.length (fun i => ⟨[(5, .int .i64 i), (2, .op 0 0 0)], [(0, ⟨6, true, [[.str nm, .int .i64 area, .int .i64 low, .int .i64 high, .sl (cls.map encI), .int .i64 price]]⟩)], 32, 70⟩) (fun i => ∀ j, j < i → clsErr cls j = 0) (entails_eq (nx := 32) (k := 0) (ns := []) (ks := [5, 2]) [(0, 0)] rfl (by simp) (by kernel_rfl)) (by omega) ?_
  intro i hi hC
  by_cases hlt : i < cls.length
  · have hs : clsErr cls i = if ¬ (0 ≤ cls[i] ∧ cls[i] ≤ 9) then 2 else if 0 < i ∧ cls[i] ≤ cls.getD (i - 1) 0 then 9 else 0 := by simp only [clsErr, List.getElem?_eq_getElem hlt]
    have hgd : 0 < i → ∀ h : ((i : Int) - 1).toNat < cls.length, cls.getD (i - 1) 0 = cls[((i : Int) - 1).toNat]'h := fun hp h => by
      have e : ((i : Int) - 1).toNat = i - 1 := by omega
      rw [List.getD_eq_getElem?_getD, ← e, List.getElem?_eq_getElem h]; rfl
    repeat' first
           | (with_reducible apply go_op)
           | (with_reducible apply go_next)
           | ((with_reducible (show evOp _ _ _ _ _ _)); first
             | ((with_reducible (show evOp _ (.move _) _ _ _ _)) ; first | ((with_reducible apply go_mv_int); rfl; rfl) | ((with_reducible apply go_mv_bool); rfl; rfl))
             | ((with_reducible apply go_as))
             | ((with_reducible (show evOp _ (.load _ _) _ _ _ _)) ; first | ((with_reducible apply go_load); rfl; rfl; rfl) | ((with_reducible apply go_load_own); rfl; rfl; rfl; rfl))
             | (((with_reducible apply go_fieldAddr_own); rfl; rfl; rfl))
             | ((with_reducible (show evOp _ (.indexAddr _ _ _) _ _ _ _)) ; first | ((with_reducible apply go_index_nat); rfl; rfl; (with_reducible rfl); (intro; rfl); rfl; omega; (intro hlt)) | ((with_reducible apply go_index); rfl; rfl; (intro; rfl); rfl; omega; intro hlt))
             | ((with_reducible (show evOp _ (.binOp _ _ _ _ _) _ _ _ _)) ; first | ((with_reducible apply go_cmp); rfl; rfl; rfl; rfl) | ((with_reducible apply go_add); rfl; rfl; rfl; omega) | ((with_reducible apply go_sub); rfl; rfl; rfl; omega))
             | ((with_reducible (show evOp _ (.call _) _ _ _ _)) ; first | ((with_reducible apply go_len); rfl; rfl) | ((with_reducible apply go_fn_bool); rfl; (exact c38 _ _ _); rfl))
             | (((with_reducible apply go_not); rfl; rfl))
             | (((with_reducible apply go_pick); rfl; rfl; rfl)))
           | ((with_reducible (show evOps _ _ _ _ _ _)); first
             | (with_reducible apply go_nil)
             | ((with_reducible apply go_run); rfl; rfl)
             | ((with_reducible apply go_pass); rfl; rfl; rfl)
             | (((with_reducible apply go_guard); rfl) <;> (intro h; simp only [h, Bool.not_true, Bool.not_false]; (try with_reducible (refine ⟨rfl, ?_⟩)); try simp only [decide_eq_true_eq, decide_eq_false_iff_not, Bool.not_eq_true', Bool.not_eq_false', Bool.not_true, Bool.not_false] at h; try exact absurd trivial h))
             | ((with_reducible apply go_pre); rfl)
             | (with_reducible apply go_pre_nil)
             | ((with_reducible apply go_suf); rfl)
             | (with_reducible apply go_suf_nil))
           | ((with_reducible (show evG _ _ _ _ _)); first
             | (with_reducible apply go_seq)
             | (with_reducible apply go_region)
             | ((with_reducible apply go_cond_f); rfl; rfl)
             | (((with_reducible apply go_cond); rfl) <;> (intro h; simp only [h]; try simp only [decide_eq_true_eq, decide_eq_false_iff_not, Bool.not_eq_true', Bool.not_eq_false', Bool.not_true, Bool.not_false] at h; try exact absurd trivial h))
             | ((with_reducible apply go_order); kernel_rfl; rfl)
             | (with_reducible apply go_ret)
             | (with_reducible apply go_skipc)
             | (with_reducible apply go_block)
             | (with_reducible apply go_exit))
           | (with_reducible apply go_kseq)
           | (with_reducible apply go_ksuf)
           | (with_reducible apply go_kseq_ret)
           | (with_reducible apply go_kblock)
           | (with_reducible apply go_kblock_ret)
           | (with_reducible apply go_kblock_exit)
           | (with_reducible apply go_kseq_exit)
           | ((with_reducible apply end_int); rfl)
    all_goals first
      | exact absurd hlt (by omega)
      | (have he : clsErr cls i = 2 := by rw [hs, if_pos (by assumption)]
         rw [firstE_at (by omega) hC (by rw [he]; decide), he])
      | (have he : clsErr cls i = 9 := by rw [hs, if_neg (by omega), if_pos ⟨by omega, by rw [hgd (by omega) (by omega)]; omega⟩]
         rw [firstE_at (by omega) hC (by rw [he]; decide), he])
      | (have he : clsErr cls i = 0 := by
           rw [hs, if_neg (by omega), if_neg fun hh => by have h1 := hh.1; have h2 := hh.2; rw [hgd (by omega) (by omega)] at h2; omega]
         refine ⟨by omega, fun j hj => ?_, entails_eq (nx := 32) (k := 0) (ns := []) (ks := [5, 2]) [(0, 0)] rfl (by simp) (by kernel_rfl)⟩
         rcases Nat.lt_succ_iff_lt_or_eq.1 hj with h' | rfl
         · exact hC j h'
         · exact he)
      | trace_state
  · repeat' first
           | (with_reducible apply go_op)
           | (with_reducible apply go_next)
           | ((with_reducible (show evOp _ _ _ _ _ _)); first
             | (((with_reducible apply go_mv_int); rfl; rfl))
             | ((with_reducible apply go_as))
             | ((with_reducible (show evOp _ (.load _ _) _ _ _ _)) ; first | ((with_reducible apply go_load); rfl; rfl; rfl) | ((with_reducible apply go_load_own); rfl; rfl; rfl; rfl))
             | (((with_reducible apply go_fieldAddr_own); rfl; rfl; rfl))
             | (((with_reducible apply go_index_nat); rfl; rfl; (with_reducible rfl); (intro; rfl); rfl; omega; (intro hlt)))
             | (((with_reducible apply go_cmp); rfl; rfl; rfl; rfl))
             | (((with_reducible apply go_len); rfl; rfl)))
           | ((with_reducible (show evOps _ _ _ _ _ _)); first
             | (with_reducible apply go_nil))
           | ((with_reducible (show evG _ _ _ _ _)); first
             | (with_reducible apply go_seq)
             | (with_reducible apply go_region)
             | (((with_reducible apply go_cond); rfl) <;> (intro h; simp only [h]; try simp only [decide_eq_true_eq, decide_eq_false_iff_not, Bool.not_eq_true', Bool.not_eq_false', Bool.not_true, Bool.not_false] at h; try exact absurd trivial h))
             | (with_reducible apply go_ret)
             | (with_reducible apply go_skipc)
             | (with_reducible apply go_block)
             | (with_reducible apply go_exit))
           | (with_reducible apply go_kseq)
           | (with_reducible apply go_kblock_exit)
           | (with_reducible apply go_kseq_exit)
           | ((with_reducible apply end_int); rfl)
    all_goals first
      | exact absurd hlt (by omega)
      | exact (firstE_zero fun j hj => hC j (by omega)).symm
      | trace_state
end Go.Pv.Soil

open Go Go.Proofs Go.Pv
set_option maxHeartbeats 4000000
set_option maxRecDepth 100000
set_option linter.unusedSimpArgs false
set_option linter.unusedVariables false
namespace Go.Pv.Soil
def blkErr (l : List Bulk) (i : Nat) : Int := match l[i]? with
  | none => 0
  | some b => if nameOK b.soil = false then 4 else if 0 ≤ idxOf (fun x => decide (x.soil = b.soil)) (l.take i) then 5 else if ¬ ((1 ≤ b.den ∧ b.den ≤ 1000) ∧ 1 ≤ b.num ∧ b.num ≤ 10 * b.den) then 2 else 0
def carErr (s : Yard) (i : Nat) : Int := match s.carry[i]?, s.bulk[i]? with
  | some c, some b => if ¬ (0 ≤ c ∧ c ≤ b.den - 1) then 2 else 0
  | _, _ => 0
def bulkErrE (s : Yard) : Int := if 20 < s.bulk.length then 8 else if firstE s.bulk.length (blkErr s.bulk) ≠ 0 then firstE s.bulk.length (blkErr s.bulk) else if s.carry.length ≠ s.bulk.length then 10 else firstE s.carry.length (carErr s)
theorem blkErr_at {l : List Bulk} {i : Nat} (hlt : i < l.length) : blkErr l i = if nameOK l[i].soil = false then 4 else if 0 ≤ idxOf (fun x => decide (x.soil = l[i].soil)) (l.take i) then 5 else if ¬ ((1 ≤ l[i].den ∧ l[i].den ≤ 1000) ∧ 1 ≤ l[i].num ∧ l[i].num ≤ 10 * l[i].den) then 2 else 0 := by
  simp only [blkErr, List.getElem?_eq_getElem hlt]
theorem blkErr_ok {l : List Bulk} {i : Nat} (hlt : i < l.length) (h : blkErr l i = 0) : nameOK l[i].soil = true ∧ idxOf (fun x => decide (x.soil = l[i].soil)) (l.take i) < 0 ∧ bulkOK l[i] = true := by
  rw [blkErr_at hlt] at h
  split at h
  · simp at h
  · split at h
    · simp at h
    · split at h
      · simp at h
      · rename_i h1 h2 h3
        exact ⟨by simpa using h1, by omega, decide_eq_true (Classical.not_not.1 h3)⟩
theorem bulk_err {s : Yard} {i : Nat} (h20 : ¬ 20 < s.bulk.length) (hi : i < s.bulk.length) (hC : ∀ j, j < i → blkErr s.bulk j = 0) (hne : blkErr s.bulk i ≠ 0) : bulkErrE s = blkErr s.bulk i := by
  have e := firstE_at hi hC hne
  unfold bulkErrE
  rw [if_neg h20, if_pos (by rw [e]; exact hne), e]
theorem r_bulkingErr (s : Yard) (hl : s.bulk.length ≤ 1000) (hc : s.carry.length ≤ 1000) : Contract Try.prog 18 [.agg (encYard s)] (.ret (.int .i64 (bulkErrE s))) := by
  refine contract_of mix Try.func18 rfl rfl (by rw [Try.ntmps18]; exact Nat.le_of_ble_eq_true rfl) ?_; rw [Try.results18, Try.ntmps18]; simp only [argsE, Nat.reduceAdd]
  repeat' first
           | (with_reducible apply go_op)
           | (with_reducible apply go_next)
           | ((with_reducible (show evOp _ _ _ _ _ _)); first
             | (((with_reducible apply go_mv_int); rfl; rfl))
             | ((with_reducible apply go_as))
             | (((with_reducible apply go_load_own); rfl; rfl; rfl; rfl))
             | (((with_reducible apply go_fieldAddr_own); rfl; rfl; rfl))
             | (((with_reducible apply go_cmp); rfl; rfl; rfl; rfl))
             | (((with_reducible apply go_len); rfl; rfl))
             | (((with_reducible apply go_bx_agg); rfl; rfl; (exact Nat.le_of_ble_eq_true rfl); rfl; rfl)))
           | ((with_reducible (show evOps _ _ _ _ _ _)); first
             | (with_reducible apply go_nil))
           | ((with_reducible (show evG _ _ _ _ _)); first
             | (with_reducible apply go_seq)
             | (with_reducible apply go_region)
             | (((with_reducible apply go_cond); rfl) <;> (intro h; simp only [h]; try simp only [decide_eq_true_eq, decide_eq_false_iff_not, Bool.not_eq_true', Bool.not_eq_false', Bool.not_true, Bool.not_false] at h; try exact absurd trivial h))
             | (with_reducible apply go_ret)
             | (with_reducible apply go_skipc)
             | (with_reducible apply go_block))
           | (with_reducible apply go_kseq)
           | (with_reducible apply go_kseq_ret)
           | ((with_reducible apply end_int); rfl)
  · unfold bulkErrE; rw [if_pos (by omega)]
  refine go_count s.bulk.length (fun i => ⟨[(3, .int .i64 i), (1, .op 0 0 0)], [(0, ⟨4, true, [encYard s]⟩)], 32, 79⟩) (fun i => ∀ j, j < i → blkErr s.bulk j = 0) (entails_eq (nx := 32) (k := 0) (ns := []) (ks := [3, 1]) [(0, 0)] rfl (by simp) (by kernel_rfl)) (by omega) ?_
  intro i hi hC
  by_cases hlt : i < s.bulk.length
  · have hs : blkErr s.bulk i = if nameOK s.bulk[i].soil = false then 4 else if 0 ≤ idxOf (fun x => decide (x.soil = s.bulk[i].soil)) (s.bulk.take i) then 5 else if ¬ ((1 ≤ s.bulk[i].den ∧ s.bulk[i].den ≤ 1000) ∧ 1 ≤ s.bulk[i].num ∧ s.bulk[i].num ≤ 10 * s.bulk[i].den) then 2 else 0 := by
      simp only [blkErr, List.getElem?_eq_getElem hlt]
    have hn := c83 s.bulk[i].soil
    have hf := r_Factor (s.bulk.take i) (by rw [List.length_take]; omega) s.bulk[i].soil
    generalize idxOf (fun x => decide (x.soil = s.bulk[i].soil)) (s.bulk.take i) = fi at *
    repeat' first
           | (with_reducible apply go_op)
           | (with_reducible apply go_next)
           | ((with_reducible (show evOp _ _ _ _ _ _)); first
             | ((with_reducible (show evOp _ (.move _) _ _ _ _)) ; first | ((with_reducible apply go_mv_int); rfl; rfl) | ((with_reducible apply go_mv_bool); rfl; rfl))
             | ((with_reducible apply go_as))
             | ((with_reducible (show evOp _ (.load _ _) _ _ _ _)) ; first | ((with_reducible apply go_ld_ptr); rfl; rfl; rfl) | ((with_reducible apply go_load_own); rfl; rfl; rfl; rfl))
             | (((with_reducible apply go_fieldAddr_own); rfl; rfl; rfl))
             | (((with_reducible apply go_index_nat); rfl; rfl; (with_reducible rfl); (intro; rfl); rfl; omega; (intro hlt)))
             | ((with_reducible (show evOp _ (.binOp _ _ _ _ _) _ _ _ _)) ; first | ((with_reducible apply go_cmp); rfl; rfl; rfl; rfl) | ((with_reducible apply go_add); rfl; rfl; rfl; omega) | ((with_reducible apply go_mul); rfl; rfl; rfl; omega))
             | ((with_reducible (show evOp _ (.call _) _ _ _ _)) ; first | ((with_reducible apply go_len); rfl; rfl) | ((with_reducible apply go_fn_bool); rfl; (exact hn); rfl) | ((with_reducible apply go_fn_int); rfl; (exact hf); rfl) | ((with_reducible apply go_fn_bool); rfl; (exact c38 _ _ _); rfl))
             | (((with_reducible apply go_st_agg); rfl; rfl; rfl; rfl; rfl; rfl; rfl))
             | (((with_reducible apply go_take_sl); rfl; rfl; (intro; rfl); rfl; omega))
             | (((with_reducible apply go_not); rfl; rfl))
             | (((with_reducible apply go_pick); rfl; rfl; rfl))
             | (((with_reducible apply go_alloc); rfl; rfl; rfl)))
           | ((with_reducible (show evOps _ _ _ _ _ _)); first
             | (with_reducible apply go_nil)
             | ((with_reducible apply go_run); rfl; rfl)
             | ((with_reducible apply go_pass); rfl; rfl; rfl)
             | (((with_reducible apply go_guard); rfl) <;> (intro h; simp only [h, Bool.not_true, Bool.not_false]; (try with_reducible (refine ⟨rfl, ?_⟩)); try simp only [decide_eq_true_eq, decide_eq_false_iff_not, Bool.not_eq_true', Bool.not_eq_false', Bool.not_true, Bool.not_false] at h; try exact absurd trivial h))
             | ((with_reducible apply go_pre); rfl)
             | (with_reducible apply go_pre_nil)
             | ((with_reducible apply go_suf); rfl)
             | (with_reducible apply go_suf_nil))
           | ((with_reducible (show evG _ _ _ _ _)); first
             | (with_reducible apply go_seq)
             | (with_reducible apply go_region)
             | ((with_reducible apply go_cond_t); rfl; rfl)
             | (((with_reducible apply go_cond); rfl) <;> (intro h; simp only [h]; try simp only [decide_eq_true_eq, decide_eq_false_iff_not, Bool.not_eq_true', Bool.not_eq_false', Bool.not_true, Bool.not_false] at h; try exact absurd trivial h))
             | ((with_reducible apply go_order); kernel_rfl; rfl)
             | (with_reducible apply go_ret)
             | (with_reducible apply go_skipc)
             | (with_reducible apply go_block)
             | (with_reducible apply go_exit))
           | (with_reducible apply go_kseq)
           | (with_reducible apply go_ksuf)
           | (with_reducible apply go_kseq_ret)
           | (with_reducible apply go_kblock)
           | (with_reducible apply go_kblock_ret)
           | (with_reducible apply go_kblock_exit)
           | (with_reducible apply go_kseq_exit)
           | ((with_reducible apply end_int); rfl)
    all_goals first
      | exact absurd hlt (by omega)
      | (have he : blkErr s.bulk i = 4 := by rw [hs, if_pos (by assumption)]
         rw [bulk_err (by omega) (by omega) hC (by rw [he]; decide), he])
      | (have he : blkErr s.bulk i = 5 := by rw [hs, if_neg (by simp [*]), if_pos (by omega)]
         rw [bulk_err (by omega) (by omega) hC (by rw [he]; decide), he])
      | (have he : blkErr s.bulk i = 2 := by rw [hs, if_neg (by simp [*]), if_neg (by omega), if_pos (by omega)]
         rw [bulk_err (by omega) (by omega) hC (by rw [he]; decide), he])
      | (have he : blkErr s.bulk i = 0 := by rw [hs, if_neg (by simp [*]), if_neg (by omega), if_neg (by omega)]
         refine ⟨by omega, fun j hj => ?_, entails_eq (nx := 32) (k := 0) (ns := []) (ks := [3, 1]) [(0, 0)] rfl (by simp) (by kernel_rfl)⟩
         rcases Nat.lt_succ_iff_lt_or_eq.1 hj with h' | rfl
         · exact hC j h'
         · exact he)
      | trace_state
  · have e : i = s.bulk.length := by omega
    subst e
    have h0 : firstE s.bulk.length (blkErr s.bulk) = 0 := firstE_zero fun j hj => hC j hj
    repeat' first
           | (with_reducible apply go_op)
           | (with_reducible apply go_next)
           | ((with_reducible (show evOp _ _ _ _ _ _)); first
             | (((with_reducible apply go_mv_int); rfl; rfl))
             | ((with_reducible apply go_as))
             | ((with_reducible (show evOp _ (.load _ _) _ _ _ _)) ; first | ((with_reducible apply go_ld_ptr); rfl; rfl; rfl) | ((with_reducible apply go_load_own); rfl; rfl; rfl; rfl))
             | (((with_reducible apply go_fieldAddr_own); rfl; rfl; rfl))
             | (((with_reducible apply go_index_nat); rfl; rfl; (with_reducible rfl); (intro; rfl); rfl; omega; (intro hlt)))
             | (((with_reducible apply go_cmp); rfl; rfl; rfl; rfl))
             | (((with_reducible apply go_len); rfl; rfl))
             | (((with_reducible apply go_st_agg); rfl; rfl; rfl; rfl; rfl; rfl; rfl))
             | (((with_reducible apply go_alloc); rfl; rfl; rfl)))
           | ((with_reducible (show evOps _ _ _ _ _ _)); first
             | (with_reducible apply go_nil))
           | ((with_reducible (show evG _ _ _ _ _)); first
             | (with_reducible apply go_seq)
             | (with_reducible apply go_region)
             | (((with_reducible apply go_cond); rfl) <;> (intro h; simp only [h]; try simp only [decide_eq_true_eq, decide_eq_false_iff_not, Bool.not_eq_true', Bool.not_eq_false', Bool.not_true, Bool.not_false] at h; try exact absurd trivial h))
             | (with_reducible apply go_ret)
             | (with_reducible apply go_skipc)
             | (with_reducible apply go_block)
             | (with_reducible apply go_exit))
           | (with_reducible apply go_kseq)
           | (with_reducible apply go_kseq_ret)
           | (with_reducible apply go_kblock_exit)
           | (with_reducible apply go_kseq_exit)
           | ((with_reducible apply end_int); rfl)
    all_goals first
      | exact absurd hlt (by omega)
      | (unfold bulkErrE; rw [if_neg (by omega), if_neg (by rw [h0]; simp), if_pos (by omega)])
      | skip
    have hcl : s.carry.length = s.bulk.length := by omega
    have hun : bulkErrE s = firstE s.carry.length (carErr s) := by unfold bulkErrE; rw [if_neg (by omega), if_neg (by rw [h0]; simp), if_neg (by omega)]
    refine go_count s.carry.length (fun i => ⟨[(5, .int .i64 i), (1, .op 0 0 0)], [(0, ⟨4, true, [encYard s]⟩)], 32, 79⟩) (fun i => ∀ j, j < i → carErr s j = 0) (entails_eq (nx := 32) (k := 0) (ns := []) (ks := [5, 1]) [(0, 0)] rfl (by simp) (by kernel_rfl)) (by omega) ?_
    intro m hm hD
    by_cases hlm : m < s.carry.length
    · have hd := of_decide_eq_true (blkErr_ok (show m < s.bulk.length by omega) (hC m (by omega))).2.2
      have hs : carErr s m = if ¬ (0 ≤ s.carry[m] ∧ s.carry[m] ≤ (s.bulk[m]'(by omega)).den - 1) then 2 else 0 := by
        simp only [carErr, List.getElem?_eq_getElem hlm, List.getElem?_eq_getElem (show m < s.bulk.length by omega)]
      repeat' first
           | (with_reducible apply go_op)
           | (with_reducible apply go_next)
           | ((with_reducible (show evOp _ _ _ _ _ _)); first
             | (((with_reducible apply go_mv_int); rfl; rfl))
             | ((with_reducible apply go_as))
             | ((with_reducible (show evOp _ (.load _ _) _ _ _ _)) ; first | ((with_reducible apply go_load); rfl; rfl; rfl) | ((with_reducible apply go_load_own); rfl; rfl; rfl; rfl))
             | ((with_reducible (show evOp _ (.fieldAddr _ _ _) _ _ _ _)) ; first | ((with_reducible apply go_fieldAddr); rfl; rfl) | ((with_reducible apply go_fieldAddr_own); rfl; rfl; rfl))
             | (((with_reducible apply go_index_nat); rfl; rfl; (with_reducible rfl); (intro; rfl); rfl; omega; (intro hlt)))
             | ((with_reducible (show evOp _ (.binOp _ _ _ _ _) _ _ _ _)) ; first | ((with_reducible apply go_cmp); rfl; rfl; rfl; rfl) | ((with_reducible apply go_add); rfl; rfl; rfl; omega) | ((with_reducible apply go_sub); rfl; rfl; rfl; omega))
             | ((with_reducible (show evOp _ (.call _) _ _ _ _)) ; first | ((with_reducible apply go_len); rfl; rfl) | ((with_reducible apply go_fn_bool); rfl; (exact c38 _ _ _); rfl))
             | (((with_reducible apply go_not); rfl; rfl)))
           | ((with_reducible (show evOps _ _ _ _ _ _)); first
             | (with_reducible apply go_nil)
             | ((with_reducible apply go_pre); rfl)
             | (with_reducible apply go_pre_nil)
             | ((with_reducible apply go_suf); rfl)
             | (with_reducible apply go_suf_nil))
           | ((with_reducible (show evG _ _ _ _ _)); first
             | (with_reducible apply go_seq)
             | (with_reducible apply go_region)
             | (((with_reducible apply go_cond); rfl) <;> (intro h; simp only [h]; try simp only [decide_eq_true_eq, decide_eq_false_iff_not, Bool.not_eq_true', Bool.not_eq_false', Bool.not_true, Bool.not_false] at h; try exact absurd trivial h))
             | ((with_reducible apply go_order); kernel_rfl; rfl)
             | (with_reducible apply go_ret)
             | (with_reducible apply go_skipc)
             | (with_reducible apply go_block)
             | (with_reducible apply go_exit))
           | (with_reducible apply go_kseq)
           | (with_reducible apply go_ksuf)
           | (with_reducible apply go_kseq_ret)
           | (with_reducible apply go_kblock)
           | (with_reducible apply go_kblock_ret)
           | (with_reducible apply go_kblock_exit)
           | (with_reducible apply go_kseq_exit)
           | ((with_reducible apply end_int); rfl)
      all_goals first
        | exact absurd hlm (by omega)
        | (have he : carErr s m = 2 := by rw [hs, if_pos (by assumption)]
           rw [hun, firstE_at (by omega) hD (by rw [he]; decide), he])
        | (have he : carErr s m = 0 := by rw [hs, if_neg (by omega)]
           refine ⟨by omega, fun j hj => ?_, entails_eq (nx := 32) (k := 0) (ns := []) (ks := [5, 1]) [(0, 0)] rfl (by simp) (by kernel_rfl)⟩
           rcases Nat.lt_succ_iff_lt_or_eq.1 hj with h' | rfl
           · exact hD j h'
           · exact he)
        | trace_state
    · repeat' first
           | (with_reducible apply go_op)
           | (with_reducible apply go_next)
           | ((with_reducible (show evOp _ _ _ _ _ _)); first
             | (((with_reducible apply go_mv_int); rfl; rfl))
             | ((with_reducible apply go_as))
             | ((with_reducible (show evOp _ (.load _ _) _ _ _ _)) ; first | ((with_reducible apply go_load); rfl; rfl; rfl) | ((with_reducible apply go_load_own); rfl; rfl; rfl; rfl))
             | ((with_reducible (show evOp _ (.fieldAddr _ _ _) _ _ _ _)) ; first | ((with_reducible apply go_fieldAddr); rfl; rfl) | ((with_reducible apply go_fieldAddr_own); rfl; rfl; rfl))
             | (((with_reducible apply go_index_nat); rfl; rfl; (with_reducible rfl); (intro; rfl); rfl; omega; (intro hlt)))
             | ((with_reducible (show evOp _ (.binOp _ _ _ _ _) _ _ _ _)) ; first | ((with_reducible apply go_cmp); rfl; rfl; rfl; rfl) | ((with_reducible apply go_sub); rfl; rfl; rfl; omega))
             | (((with_reducible apply go_len); rfl; rfl)))
           | ((with_reducible (show evOps _ _ _ _ _ _)); first
             | (with_reducible apply go_nil)
             | ((with_reducible apply go_pre); rfl))
           | ((with_reducible (show evG _ _ _ _ _)); first
             | (with_reducible apply go_seq)
             | (with_reducible apply go_region)
             | (((with_reducible apply go_cond); rfl) <;> (intro h; simp only [h]; try simp only [decide_eq_true_eq, decide_eq_false_iff_not, Bool.not_eq_true', Bool.not_eq_false', Bool.not_true, Bool.not_false] at h; try exact absurd trivial h))
             | ((with_reducible apply go_order); kernel_rfl; rfl)
             | (with_reducible apply go_ret)
             | (with_reducible apply go_skipc)
             | (with_reducible apply go_block)
             | (with_reducible apply go_exit))
           | (with_reducible apply go_kseq)
           | (with_reducible apply go_kblock_exit)
           | (with_reducible apply go_kseq_exit)
           | ((with_reducible apply end_int); rfl)
      all_goals first
        | exact absurd hlm (by omega)
        | (rw [hun]; exact (firstE_zero fun j hj => hD j (by omega)).symm)
        | trace_state
end Go.Pv.Soil

open Go Go.Proofs Go.Pv
set_option maxHeartbeats 4000000
set_option maxRecDepth 100000
set_option linter.unusedSimpArgs false
set_option linter.unusedVariables false
namespace Go.Pv.Soil
def pitE (s : Yard) (i : Nat) : Int := match s.pits[i]? with
  | none => 0
  | some p => pitErrE p (s.pits.take i)
def depE (s : Yard) (i : Nat) : Int := match s.deps[i]? with
  | none => 0
  | some d => if ¬ (1 ≤ d.batch ∧ d.batch ≤ 1000000) then 2 else if ((s.deps.take i).any fun x => decide (x.batch = d.batch)) = true then 5 else if pitI s d.pit < 0 then 6 else if ¬ (0 ≤ d.vol ∧ d.vol ≤ 100000000000000) then 2 else 0
def capErr (s : Yard) (i : Nat) : Int := match s.pits[i]? with
  | none => 0
  | some p => if capE p < takE s.deps p.name then 19 else 0
def checkRE (s : Yard) : Int :=
  if 8 < s.pits.length then 8 else if firstE s.pits.length (pitE s) ≠ 0 then firstE s.pits.length (pitE s) else if bulkErrE s ≠ 0 then bulkErrE s else if 200 < s.deps.length then 8 else
  if firstE s.deps.length (depE s) ≠ 0 then firstE s.deps.length (depE s) else firstE s.pits.length (capErr s)
theorem pitE_at {s : Yard} {i : Nat} (h : i < s.pits.length) : pitE s i = pitErrE s.pits[i] (s.pits.take i) := by simp only [pitE, List.getElem?_eq_getElem h]
theorem depE_at {s : Yard} {i : Nat} (h : i < s.deps.length) : depE s i = if ¬ (1 ≤ s.deps[i].batch ∧ s.deps[i].batch ≤ 1000000) then 2 else if ((s.deps.take i).any fun x => decide (x.batch = s.deps[i].batch)) = true then 5 else if pitI s s.deps[i].pit < 0 then 6 else if ¬ (0 ≤ s.deps[i].vol ∧ s.deps[i].vol ≤ 100000000000000) then 2 else 0 := by
  simp only [depE, List.getElem?_eq_getElem h]
theorem capErr_at {s : Yard} {i : Nat} (h : i < s.pits.length) : capErr s i = if capE s.pits[i] < takE s.deps s.pits[i].name then 19 else 0 := by simp only [capErr, List.getElem?_eq_getElem h]
theorem pitErr_ok {p : Pit} {bef : List Pit} (h : pitErrE p bef = 0) : nameOK p.name = true ∧ idxOf (fun x => decide (x.name = p.name)) bef < 0 ∧ pitOK p = true ∧ clsOK p.classes := by
  unfold pitErrE at h
  split at h
  · simp at h
  · split at h
    · simp at h
    · split at h
      · simp at h
      · split at h
        · simp at h
        · split at h
          · simp at h
          · rename_i h1 h2 h3 h4 h5
            have h3 := Classical.not_not.1 h3
            have h5 := Classical.not_not.1 h5
            refine ⟨by simpa using h1, by omega, decide_eq_true ⟨h3.1, h3.2.1, h3.2.2, by omega, by omega, by omega⟩, fun i hi => ?_⟩
            have := k_firstAll h i hi
            simp only [clsErr, List.getElem?_eq_getElem hi] at this
            simp only [clsStep, List.getElem?_eq_getElem hi]
            split at this
            · simp at this
            · split at this
              · simp at this
              · rename_i g1 g2
                have g1 := Classical.not_not.1 g1
                simp only [Bool.and_eq_true, Bool.or_eq_true, decide_eq_true_eq]
                refine ⟨g1, ?_⟩
                by_cases h0 : i = 0
                · exact .inl h0
                · right
                  have : ¬ (p.classes[i] ≤ p.classes.getD (i - 1) 0) := fun hh => g2 ⟨by omega, hh⟩
                  omega
theorem depE_ok {s : Yard} {i : Nat} (hlt : i < s.deps.length) (h : depE s i = 0) : depOK s.deps[i] = true ∧ ((s.deps.take i).any fun x => decide (x.batch = s.deps[i].batch)) = false ∧ 0 ≤ pitI s s.deps[i].pit := by
  rw [depE_at hlt] at h
  split at h
  · simp at h
  · split at h
    · simp at h
    · split at h
      · simp at h
      · split at h
        · simp at h
        · rename_i h1 h2 h3 h4
          exact ⟨decide_eq_true ⟨Classical.not_not.1 h1, Classical.not_not.1 h4⟩, by simpa using h2, by omega⟩
theorem idxOf_neg {α : Type} {p : α → Bool} {l : List α} (h : idxOf p l < 0) : ∀ x ∈ l, p x = false := by
  have e := idxOf_ge (p := p) (l := l)
  rw [decide_eq_false (by omega)] at e
  exact fun x hx => by simpa using List.any_eq_false.1 e.symm x hx
theorem pairwise_take {α β : Type} {f : α → β} {l : List α} (h : ∀ i (hi : i < l.length), ∀ x ∈ l.take i, f x ≠ f l[i]) : l.Pairwise fun x y => f x ≠ f y :=
  List.pairwise_iff_getElem.2 fun i j hi hj hij => h j hj l[i] (List.mem_iff_getElem.2 ⟨i, by rw [List.length_take]; omega, by rw [List.getElem_take]⟩)
theorem checkR_ok {s : Yard} (h : checkRE s = 0) (hc : ∀ p ∈ s.pits, p.classes.length ≤ 1000000) : OkYard s := by
  unfold checkRE at h
  split at h
  · simp at h
  rename_i hp8
  split at h
  · rename_i hne; exact absurd h hne
  rename_i hpit
  have hpit := k_firstAll (Classical.not_not.1 hpit)
  split at h
  · rename_i hne; exact absurd h hne
  rename_i hbk
  have hbk := Classical.not_not.1 hbk
  split at h
  · simp at h
  rename_i h200
  split at h
  · rename_i hne; exact absurd h hne
  rename_i hdep
  have hdep := k_firstAll (Classical.not_not.1 hdep)
  have hcap := k_firstAll h
  unfold bulkErrE at hbk
  split at hbk
  · simp at hbk
  rename_i h20
  split at hbk
  · rename_i hne; exact absurd hbk hne
  rename_i hbl
  have hbl := k_firstAll (Classical.not_not.1 hbl)
  split at hbk
  · simp at hbk
  rename_i hcl
  have hcl := Classical.not_not.1 hcl
  have hcar := k_firstAll hbk
  have P : ∀ i (hi : i < s.pits.length), _ := fun i hi => pitErr_ok ((pitE_at hi).symm.trans (hpit i hi))
  have B : ∀ i (hi : i < s.bulk.length), _ := fun i hi => blkErr_ok hi (hbl i hi)
  have Dd : ∀ i (hi : i < s.deps.length), _ := fun i hi => depE_ok hi (hdep i hi)
  refine ⟨by omega, fun p hp => ?_, pairwise_take fun i hi x hx => ?_, by omega, fun b hb => ?_, pairwise_take fun i hi x hx => ?_, hcl, fun i hi hi' => ?_, by omega, fun d hd => ?_, pairwise_take fun i hi x hx => ?_, fun p hp => ?_⟩
  · obtain ⟨i, hi, rfl⟩ := List.mem_iff_getElem.1 hp
    exact ⟨(P i hi).2.2.1, (P i hi).2.2.2, (P i hi).1, hc _ hp⟩
  · simpa using idxOf_neg (P i hi).2.1 x hx
  · obtain ⟨i, hi, rfl⟩ := List.mem_iff_getElem.1 hb
    exact ⟨(B i hi).2.2, (B i hi).1⟩
  · simpa using idxOf_neg (B i hi).2.1 x hx
  · have := hcar i hi
    simp only [carErr, List.getElem?_eq_getElem hi, List.getElem?_eq_getElem hi'] at this
    split at this
    · simp at this
    · rename_i hh; exact Classical.not_not.1 hh
  · obtain ⟨i, hi, rfl⟩ := List.mem_iff_getElem.1 hd
    exact ⟨(Dd i hi).1, (Dd i hi).2.2⟩
  · simpa using List.any_eq_false.1 (Dd i hi).2.1 x hx
  · obtain ⟨i, hi, rfl⟩ := List.mem_iff_getElem.1 hp
    have := hcap i hi
    rw [capErr_at hi] at this
    split at this
    · simp at this
    · omega
end Go.Pv.Soil

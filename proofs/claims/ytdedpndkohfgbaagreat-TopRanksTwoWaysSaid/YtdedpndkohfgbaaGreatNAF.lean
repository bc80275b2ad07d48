import Derived.Test.YtdedpndkohfgbaaGreatProg
import Derived.Test.YtdedpndkohfgbaaGreatNAE
import Derived.Test.YtdedpndkohfgbaaGreatNAC
import Derived.KernelRfl
import Derived.Test.YtdedpndkohfgbaaGreatNAD
import Derived.Shelf.SlLaysZI
import Derived.Shelf.SlLaysM
import Derived.RangeFuncBox
import Derived.RangeFuncLeaves
import Derived.WalkKit
import Derived.OwnWalkIn
import Derived.TacticsInMore
import Derived.LoopNIn
import Derived.LoopIn
import Derived.Shelf.SortM.SortNone
/- Part of the proofs over YtdedpndkohfgbaaGreat: S15, S16, S17, S18, S19, S20, S10, S11, S12, S21, S22, S23, S61, S62, U2, U3, U4, U7, U5. -/
set_option linter.unusedVariables false
set_option linter.unusedSimpArgs false
set_option linter.unnecessarySimpa false
open Go Go.Proofs Go.Pv
set_option maxHeartbeats 1000000
set_option maxRecDepth 100000
set_option linter.unusedSimpArgs false
set_option linter.unusedVariables false
namespace Go.Pv.Soil

def encInt (n : Int) : List D := [.int .i64 n]

theorem c165 (l : List Int) (hl : l.length < 1000000000000) (g : FuncId) (p : Int → Bool) (hf : ∀ x ∈ l, Contract Tryz.prog g [.int .i64 x] (.ret (.bool (p x)))) :
    Contract Tryz.prog 90 [.sl (l.map encInt), .clo (.func g) [] []] (.ret (.int .i64 (idxOf p l))) := by
  refine contract_of mix Tryz.func90 rfl rfl (by rw [Tryz.ntmps90]; exact Nat.le_of_ble_eq_true rfl) ?_; rw [Tryz.results90, Tryz.ntmps90]; simp only [argsE, Nat.reduceAdd]
  repeat' first
           | (with_reducible apply go_op)
           | (with_reducible apply go_next)
           | ((with_reducible (show evOp _ _ _ _ _ _)); first
             | ((with_reducible (show evOp _ (.move _) _ _ _ _)) ; first | ((with_reducible apply go_mv_int); rfl; rfl) | ((with_reducible apply go_mv_sl); rfl; rfl))
             | ((with_reducible apply go_as))
             | (((with_reducible apply go_len); rfl; rfl)))
           | ((with_reducible (show evOps _ _ _ _ _ _)); first
             | (with_reducible apply go_nil))
           | ((with_reducible (show evG _ _ _ _ _)); first
             | (with_reducible apply go_seq)
             | (with_reducible apply go_region)
             | (with_reducible apply go_block))
           | (with_reducible apply go_kseq)
  refine go_count (l.length) (fun i => ⟨[(8, .int .i64 i), (7, .int .i64 l.length), (0, .sl (l.map encInt)), (1, .clo (.func g) [] [])], [], 0, 19⟩) (fun i => ∀ j (hj : j < i) (hj' : j < l.length), p l[j] = false) (entails_eq (k := 0) (ns := []) (ks := [8, 7, 0, 1]) [] rfl (by simp) rfl) (by omega) ?_
  intro i hi hC
  repeat' first
           | (with_reducible apply go_op)
           | (with_reducible apply go_next)
           | ((with_reducible (show evOp _ _ _ _ _ _)); first
             | ((with_reducible (show evOp _ (.move _) _ _ _ _)) ; first | ((with_reducible apply go_mv_int); rfl; rfl) | ((with_reducible apply go_mv_sl); rfl; rfl) | ((with_reducible apply go_mv_clo); rfl; rfl))
             | ((with_reducible apply go_as))
             | (((with_reducible apply go_load); rfl; rfl; rfl))
             | (((with_reducible apply go_index); rfl; rfl; (intro; rfl); rfl; omega; intro hlt))
             | (((with_reducible apply go_cmp); rfl; rfl; rfl; rfl)))
           | ((with_reducible (show evOps _ _ _ _ _ _)); first
             | (with_reducible apply go_nil))
           | ((with_reducible (show evG _ _ _ _ _)); first
             | (with_reducible apply go_seq)
             | (with_reducible apply go_region)
             | (((with_reducible apply go_cond); rfl) <;> (intro h; simp only [h]; try simp only [decide_eq_true_eq, decide_eq_false_iff_not, Bool.not_eq_true', Bool.not_eq_false', Bool.not_true, Bool.not_false] at h; try exact absurd trivial h))
             | (with_reducible apply go_ret)
             | (with_reducible apply go_skipc)
             | (with_reducible apply go_block)
             | (with_reducible apply go_exit))
           | (with_reducible apply go_kseq)
           | (with_reducible apply go_kblock_exit)
           | (with_reducible apply go_kseq_exit)
           | ((with_reducible apply end_int); rfl)
  · refine go_clo_bool rfl rfl (fun _ _ => rfl) (hf l[i] (List.getElem_mem _)) rfl ?_
    repeat' first
           | (with_reducible apply go_op)
           | (with_reducible apply go_next)
           | ((with_reducible (show evOp _ _ _ _ _ _)); first
             | (((with_reducible apply go_mv_int); rfl; rfl))
             | ((with_reducible apply go_as))
             | (((with_reducible apply go_add); rfl; rfl; rfl; omega)))
           | ((with_reducible (show evOps _ _ _ _ _ _)); first
             | (with_reducible apply go_nil))
           | ((with_reducible (show evG _ _ _ _ _)); first
             | (with_reducible apply go_seq)
             | (with_reducible apply go_region)
             | (((with_reducible apply go_cond); rfl) <;> (intro h; simp only [h]; try simp only [decide_eq_true_eq, decide_eq_false_iff_not, Bool.not_eq_true', Bool.not_eq_false', Bool.not_true, Bool.not_false] at h; try exact absurd trivial h))
             | (with_reducible apply go_ret)
             | (with_reducible apply go_skipc))
           | (with_reducible apply go_kseq)
           | (with_reducible apply go_kseq_ret)
           | (with_reducible apply go_kblock)
           | (with_reducible apply go_kblock_ret)
           | ((with_reducible apply end_int); rfl)
    · have h2 : i < l.length := by omega
      exact (idxOf_some h2 h fun j hj => hC j hj (by omega)).symm
    · have h2 : i < l.length := by omega
      refine ⟨by omega, fun j hj hj' => ?_, entails_eq (k := 0) (ns := []) (ks := [8, 7, 0, 1]) [] rfl (by simp) rfl⟩
      rcases Nat.lt_succ_iff_lt_or_eq.1 hj with h' | rfl
      · exact hC j h' hj'
      · exact h
  · refine (idxOf_none fun x hx => ?_).symm
    obtain ⟨j, hj, rfl⟩ := List.mem_iff_getElem.1 hx
    exact hC j (by omega) hj

theorem c124 (l : List Int) (hl : l.length < 1000000000000) (g : FuncId) (p : Int → Bool) (hf : ∀ x ∈ l, Contract Tryz.prog g [.int .i64 x] (.ret (.bool (p x)))) :
    Contract Tryz.prog 61 [.sl (l.map encInt), .clo (.func g) [] []] (.ret (.bool (l.any p))) := by
  refine contract_of mix Tryz.func61 rfl rfl (by rw [Tryz.ntmps61]; exact Nat.le_of_ble_eq_true rfl) ?_; rw [Tryz.results61, Tryz.ntmps61]; simp only [argsE, Nat.reduceAdd]
  repeat' first
           | (with_reducible apply go_op)
           | (with_reducible apply go_next)
           | ((with_reducible (show evOp _ _ _ _ _ _)); first
             | ((with_reducible (show evOp _ (.move _) _ _ _ _)) ; first | ((with_reducible apply go_mv_bool); rfl; rfl) | ((with_reducible apply go_mv_sl); rfl; rfl) | ((with_reducible apply go_mv_clo); rfl; rfl))
             | ((with_reducible apply go_as))
             | (((with_reducible apply go_cmp); rfl; rfl; rfl; rfl))
             | (((with_reducible apply go_fn_int); rfl; (exact c165 l hl g p hf); rfl)))
           | ((with_reducible (show evOps _ _ _ _ _ _)); first
             | (with_reducible apply go_nil))
           | ((with_reducible (show evG _ _ _ _ _)); first
             | (with_reducible apply go_seq)
             | (with_reducible apply go_region)
             | (with_reducible apply go_ret))
           | (with_reducible apply go_kseq)
           | ((with_reducible apply end_bool); rfl)
  exact idxOf_ge
theorem c147 (n : Int) : Contract Tryz.prog 101 [.int .i64 n] (.ret (.bool (!lvOK n))) := by
  refine contract_of mix Tryz.func101 rfl rfl (by rw [Tryz.ntmps101]; exact Nat.le_of_ble_eq_true rfl) ?_; rw [Tryz.results101, Tryz.ntmps101]; simp only [argsE, Nat.reduceAdd]
  repeat' first
           | (with_reducible apply go_op)
           | (with_reducible apply go_next)
           | ((with_reducible (show evOp _ _ _ _ _ _)); first
             | ((with_reducible (show evOp _ (.move _) _ _ _ _)) ; first | ((with_reducible apply go_mv_int); rfl; rfl) | ((with_reducible apply go_mv_bool); rfl; rfl))
             | ((with_reducible apply go_as))
             | (((with_reducible apply go_fn_bool); rfl; (exact c114 _); rfl))
             | (((with_reducible apply go_not); rfl; rfl)))
           | ((with_reducible (show evOps _ _ _ _ _ _)); first
             | (with_reducible apply go_nil))
           | ((with_reducible (show evG _ _ _ _ _)); first
             | (with_reducible apply go_seq)
             | (with_reducible apply go_region)
             | (with_reducible apply go_ret))
           | (with_reducible apply go_kseq)
           | ((with_reducible apply end_bool); rfl)
           | (with_reducible rfl)

/-- The error of a ground, a place and levels. -/
def askedE (g : Ground) (p : Pt) (l : List Int) : Int := if groundE g ≠ 0 then groundE g else if ptOK p = false ∨ (l.any fun n => !lvOK n) = true then 2 else 0

theorem c96 (g : Ground) (hs : g.soils.length < 1000000000000) (hb : g.borings.length < 1000000000000) (p : Pt) (l : List Int) (hl : l.length < 1000000000000) :
    Contract Tryz.prog 69 [.agg (encGround g), .agg (encPt p), .sl (l.map encInt)] (.ret (.int .i64 (askedE g p l))) := by
  refine contract_of mix Tryz.func69 rfl rfl (by rw [Tryz.ntmps69]; exact Nat.le_of_ble_eq_true rfl) ?_; rw [Tryz.results69, Tryz.ntmps69]; simp only [argsE, Nat.reduceAdd]
  repeat' first
           | (with_reducible apply go_op)
           | (with_reducible apply go_next)
           | ((with_reducible (show evOp _ _ _ _ _ _)); first
             | ((with_reducible (show evOp _ (.move _) _ _ _ _)) ; first | ((with_reducible apply go_mv_int); rfl; rfl) | ((with_reducible apply go_mv_bool); rfl; rfl) | ((with_reducible apply go_mv_sl); rfl; rfl))
             | ((with_reducible apply go_as))
             | (((with_reducible apply go_ld_agg); rfl; rfl; rfl; rfl))
             | (((with_reducible apply go_cmp); rfl; rfl; rfl; rfl))
             | ((with_reducible (show evOp _ (.call _) _ _ _ _)) ; first | ((with_reducible apply go_fn_int); rfl; (exact c22 g hs hb); rfl) | ((with_reducible apply go_fn_bool); rfl; (exact c142 p); rfl) | ((with_reducible apply go_fn_bool); rfl; (exact c124 l hl 101 (fun n => !lvOK n) fun x _ => c147 x); rfl))
             | (((with_reducible apply go_not); rfl; rfl))
             | (((with_reducible apply go_pick); rfl; rfl; rfl))
             | (((with_reducible apply go_bx_agg); rfl; rfl; (exact Nat.le_of_ble_eq_true rfl); rfl; rfl)))
           | ((with_reducible (show evOps _ _ _ _ _ _)); first
             | (with_reducible apply go_nil)
             | ((with_reducible apply go_run); rfl; rfl)
             | ((with_reducible apply go_pass); rfl; rfl; rfl)
             | (((with_reducible apply go_guard); rfl) <;> (intro h; simp only [h, Bool.not_true, Bool.not_false]; (try with_reducible (refine ⟨rfl, ?_⟩)); try simp only [decide_eq_true_eq, decide_eq_false_iff_not, Bool.not_eq_true', Bool.not_eq_false', Bool.not_true, Bool.not_false] at h; try exact absurd trivial h)))
           | ((with_reducible (show evG _ _ _ _ _)); first
             | (with_reducible apply go_seq)
             | (with_reducible apply go_region)
             | ((with_reducible apply go_cond_t); rfl; rfl)
             | (((with_reducible apply go_cond); rfl) <;> (intro h; simp only [h]; try simp only [decide_eq_true_eq, decide_eq_false_iff_not, Bool.not_eq_true', Bool.not_eq_false', Bool.not_true, Bool.not_false] at h; try exact absurd trivial h))
             | (with_reducible apply go_ret)
             | (with_reducible apply go_skipc))
           | (with_reducible apply go_kseq)
           | (with_reducible apply go_kseq_ret)
           | ((with_reducible apply end_int); rfl)
  all_goals simp only [askedE]
  all_goals simp_all

theorem pt_no {p : Pt} (h : ¬ ((-1000000 ≤ p.x ∧ p.x ≤ 1000000) ∧ (-1000000 ≤ p.y ∧ p.y ≤ 1000000))) : true = !ptOK p := by
  simp only [ptOK, decide_eq_false h, Bool.not_false]
theorem pt_yes {p : Pt} (h : (-1000000 ≤ p.x ∧ p.x ≤ 1000000) ∧ (-1000000 ≤ p.y ∧ p.y ≤ 1000000)) : false = !ptOK p := by
  simp only [ptOK, decide_eq_true h, Bool.not_true]
theorem c172 (p : Pt) : Contract Tryz.prog 96 [.agg (encPt p)] (.ret (.bool (!ptOK p))) := by
  refine contract_of mix Tryz.func96 rfl rfl (by rw [Tryz.ntmps96]; exact Nat.le_of_ble_eq_true rfl) ?_; rw [Tryz.results96, Tryz.ntmps96]; simp only [argsE, Nat.reduceAdd]
  repeat' first
           | (with_reducible apply go_op)
           | (with_reducible apply go_next)
           | ((with_reducible (show evOp _ _ _ _ _ _)); first
             | (((with_reducible apply go_mv_bool); rfl; rfl))
             | ((with_reducible apply go_as))
             | (((with_reducible apply go_load_own); rfl; rfl; rfl; rfl))
             | (((with_reducible apply go_fieldAddr_own); rfl; rfl; rfl))
             | (((with_reducible apply go_cmp); rfl; rfl; rfl; rfl))
             | (((with_reducible apply go_pick); rfl; rfl; rfl))
             | (((with_reducible apply go_bx_agg); rfl; rfl; (exact Nat.le_of_ble_eq_true rfl); rfl; rfl)))
           | ((with_reducible (show evOps _ _ _ _ _ _)); first
             | (with_reducible apply go_nil)
             | ((with_reducible apply go_run); rfl; rfl)
             | ((with_reducible apply go_pass); rfl; rfl; rfl)
             | (((with_reducible apply go_guard); rfl) <;> (intro h; simp only [h, Bool.not_true, Bool.not_false]; (try with_reducible (refine ⟨rfl, ?_⟩)); try simp only [decide_eq_true_eq, decide_eq_false_iff_not, Bool.not_eq_true', Bool.not_eq_false', Bool.not_true, Bool.not_false] at h; try exact absurd trivial h)))
           | ((with_reducible (show evG _ _ _ _ _)); first
             | (with_reducible apply go_seq)
             | (with_reducible apply go_region)
             | (with_reducible apply go_ret))
           | (with_reducible apply go_kseq)
           | ((with_reducible apply end_bool); rfl)
  · by_cases h4 : 1000000 < p.y
    · rw [decide_eq_true h4]; exact pt_no (p := p) (by omega)
    · rw [decide_eq_false h4]; exact pt_yes (p := p) (by omega)
  all_goals exact pt_no (p := p) (by omega)

theorem c196 (l : List Pt) (hl : l.length < 1000000000000) (g : FuncId) (p : Pt → Bool) (hf : ∀ x ∈ l, Contract Tryz.prog g [.agg (encPt x)] (.ret (.bool (p x)))) :
    Contract Tryz.prog 130 [.sl (l.map encPt), .clo (.func g) [] []] (.ret (.int .i64 (idxOf p l))) := by
  refine contract_of mix Tryz.func130 rfl rfl (by rw [Tryz.ntmps130]; exact Nat.le_of_ble_eq_true rfl) ?_; rw [Tryz.results130, Tryz.ntmps130]; simp only [argsE, Nat.reduceAdd]
  repeat' first
           | (with_reducible apply go_op)
           | (with_reducible apply go_next)
           | ((with_reducible (show evOp _ _ _ _ _ _)); first
             | ((with_reducible (show evOp _ (.move _) _ _ _ _)) ; first | ((with_reducible apply go_mv_int); rfl; rfl) | ((with_reducible apply go_mv_sl); rfl; rfl))
             | ((with_reducible apply go_as))
             | (((with_reducible apply go_len); rfl; rfl)))
           | ((with_reducible (show evOps _ _ _ _ _ _)); first
             | (with_reducible apply go_nil))
           | ((with_reducible (show evG _ _ _ _ _)); first
             | (with_reducible apply go_seq)
             | (with_reducible apply go_region)
             | (with_reducible apply go_block))
           | (with_reducible apply go_kseq)
  refine go_count (l.length) (fun i => ⟨[(8, .int .i64 i), (7, .int .i64 l.length), (0, .sl (l.map encPt)), (1, .clo (.func g) [] [])], [], 0, 19⟩) (fun i => ∀ j (hj : j < i) (hj' : j < l.length), p l[j] = false) (entails_eq (k := 0) (ns := []) (ks := [8, 7, 0, 1]) [] rfl (by simp) rfl) (by omega) ?_
  intro i hi hC
  repeat' first
           | (with_reducible apply go_op)
           | (with_reducible apply go_next)
           | ((with_reducible (show evOp _ _ _ _ _ _)); first
             | ((with_reducible (show evOp _ (.move _) _ _ _ _)) ; first | ((with_reducible apply go_mv_int); rfl; rfl) | ((with_reducible apply go_mv_sl); rfl; rfl) | ((with_reducible apply go_mv_clo); rfl; rfl))
             | ((with_reducible apply go_as))
             | (((with_reducible apply go_load); rfl; rfl; rfl))
             | (((with_reducible apply go_index); rfl; rfl; (intro; rfl); rfl; omega; intro hlt))
             | (((with_reducible apply go_cmp); rfl; rfl; rfl; rfl)))
           | ((with_reducible (show evOps _ _ _ _ _ _)); first
             | (with_reducible apply go_nil))
           | ((with_reducible (show evG _ _ _ _ _)); first
             | (with_reducible apply go_seq)
             | (with_reducible apply go_region)
             | (((with_reducible apply go_cond); rfl) <;> (intro h; simp only [h]; try simp only [decide_eq_true_eq, decide_eq_false_iff_not, Bool.not_eq_true', Bool.not_eq_false', Bool.not_true, Bool.not_false] at h; try exact absurd trivial h))
             | (with_reducible apply go_ret)
             | (with_reducible apply go_skipc)
             | (with_reducible apply go_block)
             | (with_reducible apply go_exit))
           | (with_reducible apply go_kseq)
           | (with_reducible apply go_kblock_exit)
           | (with_reducible apply go_kseq_exit)
           | ((with_reducible apply end_int); rfl)
  · refine go_clo_bool (d1 := .agg (encPt l[i])) rfl rfl (fun _ _ => rfl) (hf l[i] (List.getElem_mem _)) rfl ?_
    repeat' first
           | (with_reducible apply go_op)
           | (with_reducible apply go_next)
           | ((with_reducible (show evOp _ _ _ _ _ _)); first
             | (((with_reducible apply go_mv_int); rfl; rfl))
             | ((with_reducible apply go_as))
             | (((with_reducible apply go_add); rfl; rfl; rfl; omega)))
           | ((with_reducible (show evOps _ _ _ _ _ _)); first
             | (with_reducible apply go_nil))
           | ((with_reducible (show evG _ _ _ _ _)); first
             | (with_reducible apply go_seq)
             | (with_reducible apply go_region)
             | (((with_reducible apply go_cond); rfl) <;> (intro h; simp only [h]; try simp only [decide_eq_true_eq, decide_eq_false_iff_not, Bool.not_eq_true', Bool.not_eq_false', Bool.not_true, Bool.not_false] at h; try exact absurd trivial h))
             | (with_reducible apply go_ret)
             | (with_reducible apply go_skipc))
           | (with_reducible apply go_kseq)
           | (with_reducible apply go_kseq_ret)
           | (with_reducible apply go_kblock)
           | (with_reducible apply go_kblock_ret)
           | ((with_reducible apply end_int); rfl)
    · have h2 : i < l.length := by omega
      exact (idxOf_some h2 h fun j hj => hC j hj (by omega)).symm
    · have h2 : i < l.length := by omega
      refine ⟨by omega, fun j hj hj' => ?_, entails_eq (k := 0) (ns := []) (ks := [8, 7, 0, 1]) [] rfl (by simp) rfl⟩
      rcases Nat.lt_succ_iff_lt_or_eq.1 hj with h' | rfl
      · exact hC j h' hj'
      · exact h
  · refine (idxOf_none fun x hx => ?_).symm
    obtain ⟨j, hj, rfl⟩ := List.mem_iff_getElem.1 hx
    exact hC j (by omega) hj
theorem c171 (l : List Pt) (hl : l.length < 1000000000000) (g : FuncId) (p : Pt → Bool) (hf : ∀ x ∈ l, Contract Tryz.prog g [.agg (encPt x)] (.ret (.bool (p x)))) :
    Contract Tryz.prog 95 [.sl (l.map encPt), .clo (.func g) [] []] (.ret (.bool (l.any p))) := by
  refine contract_of mix Tryz.func95 rfl rfl (by rw [Tryz.ntmps95]; exact Nat.le_of_ble_eq_true rfl) ?_; rw [Tryz.results95, Tryz.ntmps95]; simp only [argsE, Nat.reduceAdd]
  repeat' first
           | (with_reducible apply go_op)
           | (with_reducible apply go_next)
           | ((with_reducible (show evOp _ _ _ _ _ _)); first
             | ((with_reducible (show evOp _ (.move _) _ _ _ _)) ; first | ((with_reducible apply go_mv_bool); rfl; rfl) | ((with_reducible apply go_mv_sl); rfl; rfl) | ((with_reducible apply go_mv_clo); rfl; rfl))
             | ((with_reducible apply go_as))
             | (((with_reducible apply go_cmp); rfl; rfl; rfl; rfl))
             | (((with_reducible apply go_fn_int); rfl; (exact c196 l hl g p hf); rfl)))
           | ((with_reducible (show evOps _ _ _ _ _ _)); first
             | (with_reducible apply go_nil))
           | ((with_reducible (show evG _ _ _ _ _)); first
             | (with_reducible apply go_seq)
             | (with_reducible apply go_region)
             | (with_reducible apply go_ret))
           | (with_reducible apply go_kseq)
           | ((with_reducible apply end_bool); rfl)
  exact idxOf_ge
theorem c128 (l : List Pt) (hl : l.length < 1000000000000) : Contract Tryz.prog 67 [.sl (l.map encPt)] (.ret (.bool (l.any fun p => !ptOK p))) := by
  refine contract_of mix Tryz.func67 rfl rfl (by rw [Tryz.ntmps67]; exact Nat.le_of_ble_eq_true rfl) ?_; rw [Tryz.results67, Tryz.ntmps67]; simp only [argsE, Nat.reduceAdd]
  repeat' first
           | (with_reducible apply go_op)
           | (with_reducible apply go_next)
           | ((with_reducible (show evOp _ _ _ _ _ _)); first
             | ((with_reducible (show evOp _ (.move _) _ _ _ _)) ; first | ((with_reducible apply go_mv_bool); rfl; rfl) | ((with_reducible apply go_mv_sl); rfl; rfl))
             | ((with_reducible apply go_as))
             | (((with_reducible apply go_fn_bool); rfl; (exact c171 l hl 96 (fun p => !ptOK p) fun x _ => c172 x); rfl)))
           | ((with_reducible (show evOps _ _ _ _ _ _)); first
             | (with_reducible apply go_nil))
           | ((with_reducible (show evG _ _ _ _ _)); first
             | (with_reducible apply go_seq)
             | (with_reducible apply go_region)
             | (with_reducible apply go_ret))
           | (with_reducible apply go_kseq)
           | ((with_reducible apply end_bool); rfl)
           | (with_reducible rfl)

/-- The scalar product of b - a and c - a. -/
def dotE (a b c : Pt) : Int := (b.x - a.x) * (c.x - a.x) + (b.y - a.y) * (c.y - a.y)
def sqE (a b : Pt) : Int := (b.x - a.x) * (b.x - a.x) + (b.y - a.y) * (b.y - a.y)

theorem ptOK_bd {p : Pt} (h : ptOK p = true) : (-1000000 ≤ p.x ∧ p.x ≤ 1000000) ∧ (-1000000 ≤ p.y ∧ p.y ≤ 1000000) := by
  simpa [ptOK] using h
theorem prod_bd {a b m : Int} (hm : 0 ≤ m) (ha : -m ≤ a ∧ a ≤ m) (hb : -m ≤ b ∧ b ≤ m) : -(m * m) ≤ a * b ∧ a * b ≤ m * m := by
  have h : (a * b).natAbs ≤ (m * m).natAbs := by
    rw [Int.natAbs_mul, Int.natAbs_mul]
    exact Nat.mul_le_mul (by omega) (by omega)
  have h2 : ((m * m).natAbs : Int) = m * m := Int.natAbs_of_nonneg (Int.mul_nonneg hm hm)
  omega
theorem prod4 {a b : Int} (ha : -2000000 ≤ a ∧ a ≤ 2000000) (hb : -2000000 ≤ b ∧ b ≤ 2000000) : -4000000000000 ≤ a * b ∧ a * b ≤ 4000000000000 := by
  have := prod_bd (m := 2000000) (by omega) ha hb; omega

theorem c133 (a b c : Pt) (ha : ptOK a = true) (hb : ptOK b = true) (hc : ptOK c = true) : Contract Tryz.prog 110 [.agg (encPt a), .agg (encPt b), .agg (encPt c)] (.ret (.int .i64 (dotE a b c))) := by
  have h1 := ptOK_bd ha
  have h2 := ptOK_bd hb
  have h3 := ptOK_bd hc
  have m1 := prod4 (a := b.x - a.x) (b := c.x - a.x) (by omega) (by omega)
  have m2 := prod4 (a := b.y - a.y) (b := c.y - a.y) (by omega) (by omega)
  refine contract_of mix Tryz.func110 rfl rfl (by rw [Tryz.ntmps110]; exact Nat.le_of_ble_eq_true rfl) ?_; rw [Tryz.results110, Tryz.ntmps110]; simp only [argsE, Nat.reduceAdd]
  repeat' first
           | (with_reducible apply go_op)
           | (with_reducible apply go_next)
           | ((with_reducible (show evOp _ _ _ _ _ _)); first
             | (((with_reducible apply go_mv_int); rfl; rfl))
             | ((with_reducible apply go_as))
             | (((with_reducible apply go_load_own); rfl; rfl; rfl; rfl))
             | (((with_reducible apply go_fieldAddr_own); rfl; rfl; rfl))
             | ((with_reducible (show evOp _ (.binOp _ _ _ _ _) _ _ _ _)) ; first | ((with_reducible apply go_add); rfl; rfl; rfl; omega) | ((with_reducible apply go_sub); rfl; rfl; rfl; omega) | ((with_reducible apply go_mul); rfl; rfl; rfl; omega))
             | (((with_reducible apply go_bx_agg); rfl; rfl; (exact Nat.le_of_ble_eq_true rfl); rfl; rfl)))
           | ((with_reducible (show evOps _ _ _ _ _ _)); first
             | (with_reducible apply go_nil))
           | ((with_reducible (show evG _ _ _ _ _)); first
             | (with_reducible apply go_seq)
             | (with_reducible apply go_region)
             | (with_reducible apply go_ret))
           | (with_reducible apply go_kseq)
           | ((with_reducible apply end_int); rfl)
  rfl
theorem c149 (a b c : Pt) (ha : ptOK a = true) (hb : ptOK b = true) (hc : ptOK c = true) : Contract Tryz.prog 118 [.agg (encPt a), .agg (encPt b), .agg (encPt c)] (.ret (.int .i64 (dotE a b c))) := by
  have h1 := ptOK_bd ha
  have h2 := ptOK_bd hb
  have h3 := ptOK_bd hc
  have m1 := prod4 (a := b.x - a.x) (b := c.x - a.x) (by omega) (by omega)
  have m2 := prod4 (a := b.y - a.y) (b := c.y - a.y) (by omega) (by omega)
  refine contract_of mix Tryz.func118 rfl rfl (by rw [Tryz.ntmps118]; exact Nat.le_of_ble_eq_true rfl) ?_; rw [Tryz.results118, Tryz.ntmps118]; simp only [argsE, Nat.reduceAdd]
  repeat' first
           | (with_reducible apply go_op)
           | (with_reducible apply go_next)
           | ((with_reducible (show evOp _ _ _ _ _ _)); first
             | (((with_reducible apply go_mv_int); rfl; rfl))
             | ((with_reducible apply go_as))
             | (((with_reducible apply go_load_own); rfl; rfl; rfl; rfl))
             | (((with_reducible apply go_fieldAddr_own); rfl; rfl; rfl))
             | ((with_reducible (show evOp _ (.binOp _ _ _ _ _) _ _ _ _)) ; first | ((with_reducible apply go_add); rfl; rfl; rfl; omega) | ((with_reducible apply go_sub); rfl; rfl; rfl; omega) | ((with_reducible apply go_mul); rfl; rfl; rfl; omega))
             | (((with_reducible apply go_bx_agg); rfl; rfl; (exact Nat.le_of_ble_eq_true rfl); rfl; rfl)))
           | ((with_reducible (show evOps _ _ _ _ _ _)); first
             | (with_reducible apply go_nil))
           | ((with_reducible (show evG _ _ _ _ _)); first
             | (with_reducible apply go_seq)
             | (with_reducible apply go_region)
             | (with_reducible apply go_ret))
           | (with_reducible apply go_kseq)
           | ((with_reducible apply end_int); rfl)
  rfl
end Go.Pv.Soil

open Go Go.Proofs Go.Pv
set_option maxHeartbeats 1000000
set_option maxRecDepth 100000
set_option linter.unusedSimpArgs false
set_option linter.unusedVariables false
namespace Go.Pv.Soil

theorem sq_nonneg' (a : Int) : 0 ≤ a * a := by
  rw [← Int.natAbs_mul_self (a := a)]; exact Int.natCast_nonneg _

/-- The squared distance of two places, 0 if one is out of range. -/
def squareE (a b : Pt) : Int := if ptOK a = true ∧ ptOK b = true then sqE a b else 0
theorem squareE_bd (a b : Pt) : 0 ≤ squareE a b ∧ squareE a b ≤ 8000000000000 := by
  unfold squareE
  split
  · rename_i h
    have h1 := ptOK_bd h.1
    have h2 := ptOK_bd h.2
    have m1 := prod4 (a := b.x - a.x) (b := b.x - a.x) (by omega) (by omega)
    have m2 := prod4 (a := b.y - a.y) (b := b.y - a.y) (by omega) (by omega)
    have n1 : 0 ≤ (b.x - a.x) * (b.x - a.x) := sq_nonneg' _
    have n2 : 0 ≤ (b.y - a.y) * (b.y - a.y) := sq_nonneg' _
    unfold sqE
    omega
  · omega

theorem c148 (a b : Pt) : Contract Tryz.prog 102 [.agg (encPt a), .agg (encPt b)] (.ret (.int .i64 (squareE a b))) := by
  have h128 : Contract Tryz.prog 67 [.sl [encPt a, encPt b]] (.ret (.bool ([a, b].any fun p => !ptOK p))) := c128 [a, b] (by simp)
  by_cases h : ptOK a = true ∧ ptOK b = true
  · have e : ([a, b].any fun p => !ptOK p) = false := by simp [h.1, h.2]
    rw [e] at h128
    refine contract_of mix Tryz.func102 rfl rfl (by rw [Tryz.ntmps102]; exact Nat.le_of_ble_eq_true rfl) ?_; rw [Tryz.results102, Tryz.ntmps102]; simp only [argsE, Nat.reduceAdd]
    repeat' first
           | (with_reducible apply go_op)
           | (with_reducible apply go_next)
           | ((with_reducible (show evOp _ _ _ _ _ _)); first
             | (((with_reducible apply go_mv_int); rfl; rfl))
             | ((with_reducible apply go_as))
             | (((with_reducible apply go_ld_agg); rfl; rfl; rfl; rfl))
             | ((with_reducible (show evOp _ (.call _) _ _ _ _)) ; first | ((with_reducible apply go_fn_bool); rfl; (exact h128); rfl) | ((with_reducible apply go_fn_int); rfl; (exact c133 a b b h.1 h.2 h.2); rfl))
             | (((with_reducible apply go_bx_agg); rfl; rfl; (exact Nat.le_of_ble_eq_true rfl); rfl; rfl))
             | (((with_reducible apply go_bs2_agg); rfl; rfl; rfl; rfl; rfl; rfl; rfl; rfl)))
           | ((with_reducible (show evOps _ _ _ _ _ _)); first
             | (with_reducible apply go_nil))
           | ((with_reducible (show evG _ _ _ _ _)); first
             | (with_reducible apply go_seq)
             | (with_reducible apply go_region)
             | ((with_reducible apply go_cond_f); rfl; rfl)
             | (with_reducible apply go_ret)
             | (with_reducible apply go_skipc))
           | (with_reducible apply go_kseq)
           | ((with_reducible apply end_int); rfl)
    simp only [squareE, if_pos h, dotE, sqE]
  · have e : ([a, b].any fun p => !ptOK p) = true := by
      simp only [not_and, Bool.not_eq_true] at h
      cases ha : ptOK a
      · simp [ha]
      · simp [h ha]
    rw [e] at h128
    refine contract_of mix Tryz.func102 rfl rfl (by rw [Tryz.ntmps102]; exact Nat.le_of_ble_eq_true rfl) ?_; rw [Tryz.results102, Tryz.ntmps102]; simp only [argsE, Nat.reduceAdd]
    repeat' first
           | (with_reducible apply go_op)
           | (with_reducible apply go_next)
           | ((with_reducible (show evOp _ _ _ _ _ _)); first
             | (((with_reducible apply go_mv_int); rfl; rfl))
             | ((with_reducible apply go_as))
             | (((with_reducible apply go_ld_agg); rfl; rfl; rfl; rfl))
             | (((with_reducible apply go_fn_bool); rfl; (exact h128); rfl))
             | (((with_reducible apply go_bx_agg); rfl; rfl; (exact Nat.le_of_ble_eq_true rfl); rfl; rfl))
             | (((with_reducible apply go_bs2_agg); rfl; rfl; rfl; rfl; rfl; rfl; rfl; rfl)))
           | ((with_reducible (show evOps _ _ _ _ _ _)); first
             | (with_reducible apply go_nil))
           | ((with_reducible (show evG _ _ _ _ _)); first
             | (with_reducible apply go_seq)
             | (with_reducible apply go_region)
             | ((with_reducible apply go_cond_t); rfl; rfl)
             | (with_reducible apply go_ret))
           | (with_reducible apply go_kseq)
           | (with_reducible apply go_kseq_ret)
           | ((with_reducible apply end_int); rfl)
    simp only [squareE, if_neg h]
theorem c100 (a b : Pt) (ha : ptOK a = true) (hb : ptOK b = true) : Contract Tryz.prog 119 [.agg (encPt a), .agg (encPt b)] (.ret (.int .i64 (sqE a b))) := by
  refine contract_of mix Tryz.func119 rfl rfl (by rw [Tryz.ntmps119]; exact Nat.le_of_ble_eq_true rfl) ?_; rw [Tryz.results119, Tryz.ntmps119]; simp only [argsE, Nat.reduceAdd]
  repeat' first
           | (with_reducible apply go_op)
           | (with_reducible apply go_next)
           | ((with_reducible (show evOp _ _ _ _ _ _)); first
             | (((with_reducible apply go_mv_int); rfl; rfl))
             | ((with_reducible apply go_as))
             | (((with_reducible apply go_ld_agg); rfl; rfl; rfl; rfl))
             | (((with_reducible apply go_fn_int); rfl; (exact c149 a b b ha hb hb); rfl))
             | (((with_reducible apply go_bx_agg); rfl; rfl; (exact Nat.le_of_ble_eq_true rfl); rfl; rfl)))
           | ((with_reducible (show evOps _ _ _ _ _ _)); first
             | (with_reducible apply go_nil))
           | ((with_reducible (show evG _ _ _ _ _)); first
             | (with_reducible apply go_seq)
             | (with_reducible apply go_region)
             | (with_reducible apply go_ret))
           | (with_reducible apply go_kseq)
           | ((with_reducible apply end_int); rfl)
  simp only [dotE, sqE]

/-- The first of the least of n numbers: its place and itself. -/
def bestE (d : Nat → Int) : Nat → Nat × Int
  | 0 => (0, 0)
  | i + 1 => if i = 0 ∨ d i < (bestE d i).2 then (i, d i) else bestE d i

theorem bestE_lt {d : Nat → Int} : ∀ {n : Nat}, 0 < n → (bestE d n).1 < n
  | i + 1, _ => by
    unfold bestE
    split
    · simp
    · rename_i h
      have := bestE_lt (d := d) (n := i) (by omega)
      omega
theorem bestE_congr {d d' : Nat → Int} : ∀ {n : Nat}, (∀ i, i < n → d i = d' i) → bestE d n = bestE d' n
  | 0, _ => rfl
  | n + 1, h => by unfold bestE; rw [bestE_congr fun i hi => h i (by omega), h n (by omega)]

def borPt (b : Boring) : Pt := ⟨b.x, b.y⟩
def nearD (g : Ground) (p : Pt) (i : Nat) : Int := match g.borings[i]? with
  | some b => squareE (borPt b) p
  | none => 0
def nearE (g : Ground) (p : Pt) : Nat := (bestE (nearD g p) g.borings.length).1

theorem bestE_step {d : Nat → Int} {i : Nat} (h : i = 0 ∨ d i < (bestE d i).2) : bestE d (i + 1) = (i, d i) := by
  show (if _ then _ else _) = _
  rw [if_pos h]
theorem bestE_keep {d : Nat → Int} {i : Nat} (h : ¬ (i = 0 ∨ d i < (bestE d i).2)) : bestE d (i + 1) = bestE d i := by
  show (if _ then _ else _) = _
  rw [if_neg h]

theorem c98 (g : Ground) (hb : g.borings.length < 1000000000000) (p : Pt) : Contract Tryz.prog 70 [.agg (encGround g), .agg (encPt p)] (.ret (.int .i64 (nearE g p))) := by
  refine contract_of mix Tryz.func70 rfl rfl (by rw [Tryz.ntmps70]; exact Nat.le_of_ble_eq_true rfl) ?_; rw [Tryz.results70, Tryz.ntmps70]; simp only [argsE, Nat.reduceAdd]
  repeat' first
           | (with_reducible apply go_op)
           | (with_reducible apply go_next)
           | ((with_reducible (show evOp _ _ _ _ _ _)); first
             | (((with_reducible apply go_mv_int); rfl; rfl))
             | ((with_reducible apply go_as))
             | (((with_reducible apply go_load_own); rfl; rfl; rfl; rfl))
             | (((with_reducible apply go_fieldAddr_own); rfl; rfl; rfl))
             | (((with_reducible apply go_len); rfl; rfl))
             | (((with_reducible apply go_bx_agg); rfl; rfl; (exact Nat.le_of_ble_eq_true rfl); rfl; rfl)))
           | ((with_reducible (show evOps _ _ _ _ _ _)); first
             | (with_reducible apply go_nil))
           | ((with_reducible (show evG _ _ _ _ _)); first
             | (with_reducible apply go_seq)
             | (with_reducible apply go_region)
             | (with_reducible apply go_block))
           | (with_reducible apply go_kseq)
  refine go_count (g.borings.length) (fun i => ⟨[(14, .int .i64 i), (13, .int .i64 g.borings.length), (12, .sl (g.borings.map encBor)), (3, .op 32 0 0), (5, .int .i64 (bestE (nearD g p) i).1), (6, .int .i64 (bestE (nearD g p) i).2)], [(32, ⟨2, true, [encPt p]⟩)], 64, 37⟩) (fun i => True) (entails_eq (k := 0) (ns := []) (ks := [14, 13, 12, 3, 5, 6]) [(32, 32)] rfl (by simp) rfl) trivial ?_
  intro i hi hC
  repeat' first
           | (with_reducible apply go_op)
           | (with_reducible apply go_next)
           | ((with_reducible (show evOp _ _ _ _ _ _)); first
             | (((with_reducible apply go_mv_int); rfl; rfl))
             | ((with_reducible apply go_as))
             | ((with_reducible (show evOp _ (.load _ _) _ _ _ _)) ; first | ((with_reducible apply go_ld_agg); rfl; rfl; rfl; rfl) | ((with_reducible apply go_load); rfl; rfl; rfl) | ((with_reducible apply go_load_own); rfl; rfl; rfl; rfl))
             | (((with_reducible apply go_fieldAddr_own); rfl; rfl; rfl))
             | (((with_reducible apply go_index); rfl; rfl; (intro; rfl); rfl; omega; intro hlt))
             | (((with_reducible apply go_cmp); rfl; rfl; rfl; rfl))
             | (((with_reducible apply go_st_agg); rfl; rfl; rfl; rfl; rfl; rfl; rfl))
             | (((with_reducible apply go_bd2_int); rfl; rfl; rfl; rfl))
             | (((with_reducible apply go_alloc); rfl; rfl; rfl)))
           | ((with_reducible (show evOps _ _ _ _ _ _)); first
             | (with_reducible apply go_nil))
           | ((with_reducible (show evG _ _ _ _ _)); first
             | (with_reducible apply go_seq)
             | (with_reducible apply go_region)
             | (((with_reducible apply go_cond); rfl) <;> (intro h; simp only [h]; try simp only [decide_eq_true_eq, decide_eq_false_iff_not, Bool.not_eq_true', Bool.not_eq_false', Bool.not_true, Bool.not_false] at h; try exact absurd trivial h))
             | (with_reducible apply go_ret)
             | (with_reducible apply go_skipc)
             | (with_reducible apply go_block)
             | (with_reducible apply go_exit))
           | (with_reducible apply go_kseq)
           | (with_reducible apply go_kblock_exit)
           | (with_reducible apply go_kseq_exit)
           | ((with_reducible apply end_int); rfl)
  · have h2 : i < g.borings.length := by omega
    have hd : nearD g p i = squareE (borPt g.borings[i]) p := by simp only [nearD, List.getElem?_eq_getElem h2]
    refine go_fn_int (args' := [.agg (encPt (borPt g.borings[i])), .agg (encPt p)]) rfl (c148 _ _) rfl ?_
    rw [← hd]
    repeat' first
           | (with_reducible apply go_op)
           | (with_reducible apply go_next)
           | ((with_reducible (show evOp _ _ _ _ _ _)); first
             | ((with_reducible (show evOp _ (.move _) _ _ _ _)) ; first | ((with_reducible apply go_mv_int); rfl; rfl) | ((with_reducible apply go_mv_bool); rfl; rfl))
             | ((with_reducible apply go_as))
             | ((with_reducible (show evOp _ (.binOp _ _ _ _ _) _ _ _ _)) ; first | ((with_reducible apply go_cmp); rfl; rfl; rfl; rfl) | ((with_reducible apply go_add); rfl; rfl; rfl; omega))
             | (((with_reducible apply go_pick); rfl; rfl; rfl)))
           | ((with_reducible (show evOps _ _ _ _ _ _)); first
             | (with_reducible apply go_nil)
             | ((with_reducible apply go_run); rfl; rfl)
             | ((with_reducible apply go_pass); rfl; rfl; rfl)
             | (((with_reducible apply go_guard); rfl) <;> (intro h; simp only [h, Bool.not_true, Bool.not_false]; (try with_reducible (refine ⟨rfl, ?_⟩)); try simp only [decide_eq_true_eq, decide_eq_false_iff_not, Bool.not_eq_true', Bool.not_eq_false', Bool.not_true, Bool.not_false] at h; try exact absurd trivial h)))
           | ((with_reducible (show evG _ _ _ _ _)); first
             | (with_reducible apply go_seq)
             | (with_reducible apply go_region)
             | ((with_reducible apply go_cond_t); rfl; rfl)
             | (((with_reducible apply go_cond); rfl) <;> (intro h; simp only [h]; try simp only [decide_eq_true_eq, decide_eq_false_iff_not, Bool.not_eq_true', Bool.not_eq_false', Bool.not_true, Bool.not_false] at h; try exact absurd trivial h))
             | (with_reducible apply go_skipc))
           | (with_reducible apply go_kseq)
           | (with_reducible apply go_kblock)
    all_goals refine ⟨h2, trivial, ?_⟩
    all_goals first
      | (rw [bestE_step (by omega)]; exact entails_eq (k := 0) (ns := []) (ks := [14, 13, 12, 3, 5, 6]) [(32, 32)] rfl (by simp) rfl)
      | (rw [bestE_keep (by omega)]; exact entails_eq (k := 0) (ns := []) (ks := [14, 13, 12, 3, 5, 6]) [(32, 32)] rfl (by simp) rfl)
  · simp only [nearE]; congr 3; omega

def topAt (b : Boring) (level : Int) (i : Nat) : Bool := match b.layers[i]? with
  | some l => decide (level ≤ l.top)
  | none => false
/-- The last of n numbers that is so, or 0. -/
def lastE (p : Nat → Bool) : Nat → Nat
  | 0 => 0
  | n + 1 => if p n = true then n else lastE p n
def layerE (b : Boring) (level : Int) : Nat := lastE (topAt b level) b.layers.length

theorem lastE_at {p : Nat → Bool} {i : Nat} : ∀ {n : Nat}, i < n → p i = true → (∀ j, i < j → j < n → p j = false) → lastE p n = i
  | n + 1, hi, h, hb => by
    unfold lastE
    by_cases he : i = n
    · subst he; rw [if_pos h]
    · rw [if_neg (by rw [hb n (by omega) (by omega)]; decide)]
      exact lastE_at (by omega) h fun j h1 h2 => hb j h1 (by omega)
theorem lastE_zero {p : Nat → Bool} : ∀ {n : Nat}, (∀ j, 0 < j → j < n → p j = false) → lastE p n = 0
  | 0, _ => rfl
  | n + 1, hb => by
    unfold lastE
    by_cases he : n = 0
    · subst he; split <;> rfl
    · rw [if_neg (by rw [hb n (by omega) (by omega)]; decide)]
      exact lastE_zero fun j h1 h2 => hb j h1 (by omega)
theorem lastE_lt {p : Nat → Bool} : ∀ {n : Nat}, 0 < n → lastE p n < n
  | n + 1, _ => by
    unfold lastE
    split
    · omega
    · by_cases h : n = 0
      · subst h; exact Nat.zero_lt_succ _
      · have := lastE_lt (p := p) (n := n) (by omega); omega

theorem topAt_at {b : Boring} {level : Int} {j : Nat} (hj : j < b.layers.length) : topAt b level j = decide (level ≤ b.layers[j].top) := by
  simp only [topAt, List.getElem?_eq_getElem hj]

theorem c99 (b : Boring) (hl : b.layers.length < 1000000000000) (level : Int) : Contract Tryz.prog 71 [.agg (encBor b), .int .i64 level] (.ret (.int .i64 (layerE b level))) := by
  refine contract_of mix Tryz.func71 rfl rfl (by rw [Tryz.ntmps71]; exact Nat.le_of_ble_eq_true rfl) ?_; rw [Tryz.results71, Tryz.ntmps71]; simp only [argsE, Nat.reduceAdd]
  repeat' first
           | (with_reducible apply go_op)
           | (with_reducible apply go_next)
           | ((with_reducible (show evOp _ _ _ _ _ _)); first
             | (((with_reducible apply go_mv_int); rfl; rfl))
             | ((with_reducible apply go_as))
             | (((with_reducible apply go_load_own); rfl; rfl; rfl; rfl))
             | (((with_reducible apply go_fieldAddr_own); rfl; rfl; rfl))
             | (((with_reducible apply go_sub); rfl; rfl; rfl; omega))
             | (((with_reducible apply go_len); rfl; rfl))
             | (((with_reducible apply go_bx_agg); rfl; rfl; (exact Nat.le_of_ble_eq_true rfl); rfl; rfl)))
           | ((with_reducible (show evOps _ _ _ _ _ _)); first
             | (with_reducible apply go_nil))
           | ((with_reducible (show evG _ _ _ _ _)); first
             | (with_reducible apply go_seq)
             | (with_reducible apply go_region)
             | (with_reducible apply go_block))
           | (with_reducible apply go_kseq)
  refine go_count (b.layers.length) (fun i => ⟨[(5, .int .i64 ((b.layers.length : Int) - ((i + 1 : Nat) : Int))), (2, .op 0 0 0), (1, .int .i64 level)], [(0, ⟨4, true, [encBor b]⟩)], 32, 23⟩) (fun i => ∀ j, b.layers.length - (i + 1) < j → j < b.layers.length → topAt b level j = false) (entails_eq (k := 0) (ns := []) (ks := [5, 2, 1]) [(0, 0)] rfl (by simp) rfl) (fun j h1 h2 => by omega) ?_
  intro i hi hC
  repeat' first
           | (with_reducible apply go_op)
           | (with_reducible apply go_next)
           | ((with_reducible (show evOp _ _ _ _ _ _)); first
             | (((with_reducible apply go_mv_int); rfl; rfl))
             | ((with_reducible apply go_as))
             | ((with_reducible (show evOp _ (.load _ _) _ _ _ _)) ; first | ((with_reducible apply go_load); rfl; rfl; rfl) | ((with_reducible apply go_load_own); rfl; rfl; rfl; rfl))
             | ((with_reducible (show evOp _ (.fieldAddr _ _ _) _ _ _ _)) ; first | ((with_reducible apply go_fieldAddr); rfl; rfl) | ((with_reducible apply go_fieldAddr_own); rfl; rfl; rfl))
             | (((with_reducible apply go_index); rfl; rfl; (intro; rfl); rfl; omega; intro hlt))
             | ((with_reducible (show evOp _ (.binOp _ _ _ _ _) _ _ _ _)) ; first | ((with_reducible apply go_cmp); rfl; rfl; rfl; rfl) | ((with_reducible apply go_sub); rfl; rfl; rfl; omega)))
           | ((with_reducible (show evOps _ _ _ _ _ _)); first
             | (with_reducible apply go_nil))
           | ((with_reducible (show evG _ _ _ _ _)); first
             | (with_reducible apply go_seq)
             | (with_reducible apply go_region)
             | (((with_reducible apply go_cond); rfl) <;> (intro h; simp only [h]; try simp only [decide_eq_true_eq, decide_eq_false_iff_not, Bool.not_eq_true', Bool.not_eq_false', Bool.not_true, Bool.not_false] at h; try exact absurd trivial h))
             | (with_reducible apply go_ret)
             | (with_reducible apply go_skipc)
             | (with_reducible apply go_block)
             | (with_reducible apply go_exit))
           | (with_reducible apply go_kseq)
           | (with_reducible apply go_kseq_ret)
           | (with_reducible apply go_kblock)
           | (with_reducible apply go_kblock_ret)
           | (with_reducible apply go_kblock_exit)
           | (with_reducible apply go_kseq_exit)
           | ((with_reducible apply end_int); rfl)
  · have e : ((b.layers.length : Int) - ((i + 1 : Nat) : Int)).toNat = b.layers.length - (i + 1) := by omega
    simp only [e] at h hlt
    have hj : b.layers.length - (i + 1) < b.layers.length := by omega
    have : layerE b level = b.layers.length - (i + 1) := lastE_at hj (by rw [topAt_at hj]; simpa using h) fun j h1 h2 => hC j h1 h2
    omega
  · have e : ((b.layers.length : Int) - ((i + 1 : Nat) : Int)).toNat = b.layers.length - (i + 1) := by omega
    simp only [e] at h hlt
    have hj : b.layers.length - (i + 1) < b.layers.length := by omega
    refine ⟨by omega, fun j h1 h2 => ?_, ?_⟩
    · by_cases hjj : j = b.layers.length - (i + 1)
      · subst hjj; rw [topAt_at hj]; simpa using h
      · exact hC j (by omega) h2
    · rw [show (b.layers.length : Int) - ((i + 1 : Nat) : Int) - 1 = (b.layers.length : Int) - ((i + 1 + 1 : Nat) : Int) by omega]
      exact entails_eq (k := 0) (ns := []) (ks := [5, 2, 1]) [(0, 0)] rfl (by simp) rfl
  · have : layerE b level = 0 := lastE_zero fun j h1 h2 => hC j (by omega) h2
    omega

/-- The soil at a place and level, and the error. -/
def soilAt (g : Ground) (p : Pt) (level : Int) : ByteArray := match g.borings[nearE g p]? with
  | some b => (match b.layers[layerE b level]? with
    | some l => l.soil
    | none => .empty)
  | none => .empty
def atE (g : Ground) (p : Pt) (level : Int) : ByteArray × Int := if askedE g p [level] ≠ 0 then (.empty, askedE g p [level]) else (soilAt g p level, 0)
def encSE (x : ByteArray × Int) : D := .tup [.str x.1, .int .i64 x.2]

theorem groundE_ok {g : Ground} (h : groundE g = 0) : soilsE g.soils = 0 ∧ 0 < g.borings.length ∧ g.borings.length ≤ 20 ∧ eachE (·.name) (borE g.soils) g.borings = 0 := by
  unfold groundE at h
  split at h
  · omega
  · rename_i h1
    split at h
    · omega
    · split at h
      · omega
      · exact ⟨by simpa using h1, by omega, by omega, h⟩

theorem firstE_all {n : Nat} {f : Nat → Int} (h : firstE n f = 0) : ∀ j, j < n → f j = 0 := by
  induction n generalizing f with
  | zero => intro j hj; omega
  | succ n ih =>
    simp only [firstE] at h
    split at h
    · rename_i h0
      intro j hj
      cases j with
      | zero => exact h0
      | succ j => exact ih h j (by omega)
    · rename_i h0; exact (h0 h).elim

theorem eachE_all {α : Type} {nm : α → ByteArray} {er : α → Int} {l : List α} (h : eachE nm er l = 0) {i : Nat} (hi : i < l.length) : nameOK (nm l[i]) = true ∧ er l[i] = 0 := by
  have := firstE_all h i hi
  simp only [stepE, List.getElem?_eq_getElem hi] at this
  split at this
  · cases this
  · rename_i h1
    split at this
    · cases this
    · exact ⟨by simpa using h1, this⟩
end Go.Pv.Soil

open Go Go.Proofs Go.Pv
set_option maxHeartbeats 1000000
set_option maxRecDepth 100000
set_option linter.unusedSimpArgs false
set_option linter.unusedVariables false
namespace Go.Pv.Soil

/-- A boring that is in order. -/
structure OkBoring (l : List Soil) (b : Boring) : Prop where
  pt : ptOK (borPt b) = true
  len : 0 < b.layers.length ∧ b.layers.length ≤ 12
  lay : ∀ i (hi : i < b.layers.length), lvOK b.layers[i].top = true ∧ 0 ≤ ofName l b.layers[i].soil ∧ ∀ (h : 0 < i), b.layers[i].top < (b.layers[i - 1]'(by omega)).top

theorem borE_ok {l : List Soil} {b : Boring} (h : borE l b = 0) : OkBoring l b := by
  unfold borE at h
  split at h
  · omega
  · rename_i h1
    split at h
    · omega
    · split at h
      · omega
      · refine ⟨by simpa [borPt] using h1, by omega, fun i hi => ?_⟩
        have := firstE_all h i hi
        rw [layE_is hi] at this
        split at this
        · omega
        · rename_i h2
          split at this
          · omega
          · rename_i h3
            split at this
            · omega
            · rename_i h4
              refine ⟨by simpa using h2, by omega, fun h0 => ?_⟩
              rw [List.getElem?_eq_getElem (by omega : i - 1 < b.layers.length)] at h3
              simp only [Option.map_some, Option.getD_some, not_and] at h3
              have := h3 h0
              omega

structure OkG (g : Ground) : Prop where
  soils : soilsE g.soils = 0
  n : 0 < g.borings.length ∧ g.borings.length ≤ 20
  bor : ∀ i (hi : i < g.borings.length), OkBoring g.soils g.borings[i]

theorem okG {g : Ground} (h : groundE g = 0) : OkG g := by
  obtain ⟨h1, h2, h3, h4⟩ := groundE_ok h
  exact ⟨h1, ⟨h2, h3⟩, fun i hi => borE_ok (eachE_all h4 hi).2⟩

theorem near_lt {g : Ground} {p : Pt} (h : 0 < g.borings.length) : nearE g p < g.borings.length := bestE_lt h

theorem asked0 {g : Ground} {p : Pt} {l : List Int} (h : askedE g p l = 0) : groundE g = 0 ∧ ptOK p = true ∧ ∀ n ∈ l, lvOK n = true := by
  unfold askedE at h
  split at h
  · omega
  · rename_i h1
    split at h
    · omega
    · rename_i h2
      simp only [not_or, Bool.not_eq_false, Bool.not_eq_true, List.any_eq_false] at h2
      exact ⟨by simpa using h1, h2.1, fun n hn => by simpa using h2.2 n hn⟩

theorem soilAt_eq {g : Ground} {p : Pt} {level : Int} (h : OkG g) : ∃ (hn : nearE g p < g.borings.length) (hl : layerE g.borings[nearE g p] level < g.borings[nearE g p].layers.length), soilAt g p level = (g.borings[nearE g p].layers[layerE g.borings[nearE g p] level]).soil := by
  have hn := near_lt (p := p) h.n.1
  have hl : layerE g.borings[nearE g p] level < g.borings[nearE g p].layers.length := lastE_lt (h.bor _ hn).len.1
  refine ⟨hn, hl, ?_⟩
  simp only [soilAt, List.getElem?_eq_getElem hn, List.getElem?_eq_getElem hl]

theorem c43 (g : Ground) (hs : g.soils.length < 1000000000000) (hb : g.borings.length < 1000000000000) (p : Pt) (level : Int) : Contract Tryz.prog 33 [.agg (encGround g), .agg (encPt p), .int .i64 level] (.ret (encSE (atE g p level))) := by
  have h96 : Contract Tryz.prog 69 [.agg (encGround g), .agg (encPt p), .sl [[.int .i64 level]]] (.ret (.int .i64 (askedE g p [level]))) := c96 g hs hb p [level] (by simp)
  by_cases h0 : askedE g p [level] = 0
  · have hg := okG (asked0 h0).1
    obtain ⟨hn, hl, he⟩ := soilAt_eq (p := p) (level := level) hg
    have hll := (hg.bor _ hn).len
    have e : atE g p level = (soilAt g p level, 0) := by simp only [atE]; rw [if_neg (by simp [h0])]
    rw [e, he]
    rw [h0] at h96
    refine contract_of mix Tryz.func33 rfl rfl (by rw [Tryz.ntmps33]; exact Nat.le_of_ble_eq_true rfl) ?_; rw [Tryz.results33, Tryz.ntmps33]; simp only [argsE, Nat.reduceAdd]
    repeat' first
           | (with_reducible apply go_op)
           | (with_reducible apply go_next)
           | ((with_reducible (show evOp _ _ _ _ _ _)); first
             | ((with_reducible (show evOp _ (.move _) _ _ _ _)) ; first | ((with_reducible apply go_mv_int); rfl; rfl) | ((with_reducible apply go_mv_str); rfl; rfl))
             | ((with_reducible apply go_as))
             | ((with_reducible (show evOp _ (.load _ _) _ _ _ _)) ; first | ((with_reducible apply go_ld_ptr); rfl; rfl; rfl) | ((with_reducible apply go_ld_agg); rfl; rfl; rfl; rfl) | ((with_reducible apply go_load); rfl; rfl; rfl) | ((with_reducible apply go_load_own); rfl; rfl; rfl; rfl))
             | ((with_reducible (show evOp _ (.fieldAddr _ _ _) _ _ _ _)) ; first | ((with_reducible apply go_fieldAddr); rfl; rfl) | ((with_reducible apply go_fieldAddr_own); rfl; rfl; rfl))
             | (((with_reducible apply go_index_nat); rfl; rfl; (with_reducible rfl); (intro; rfl); rfl; omega; (intro hlt)))
             | (((with_reducible apply go_cmp); rfl; rfl; rfl; rfl))
             | ((with_reducible (show evOp _ (.call _) _ _ _ _)) ; first | ((with_reducible apply go_fn_int); rfl; (exact h96); rfl) | ((with_reducible apply go_fn_int); rfl; (exact c98 g hb p); rfl) | ((with_reducible apply go_fn_int); rfl; (exact c99 g.borings[nearE g p] (by omega) level); rfl))
             | (((with_reducible apply go_st_agg); rfl; rfl; rfl; rfl; rfl; rfl; rfl))
             | (((with_reducible apply go_bd1_agg); rfl; rfl; rfl; rfl))
             | (((with_reducible apply go_bx_agg); rfl; rfl; (exact Nat.le_of_ble_eq_true rfl); rfl; rfl))
             | (((with_reducible apply go_alloc); rfl; rfl; rfl))
             | (((with_reducible apply go_bs1_int); rfl; rfl; rfl)))
           | ((with_reducible (show evOps _ _ _ _ _ _)); first
             | (with_reducible apply go_nil)
             | ((with_reducible apply go_pre); rfl)
             | ((with_reducible apply go_pre_stop); rfl)
             | (with_reducible apply go_pre_nil)
             | ((with_reducible apply go_suf); rfl)
             | ((with_reducible apply go_suf_stop); rfl)
             | (with_reducible apply go_suf_nil))
           | ((with_reducible (show evG _ _ _ _ _)); first
             | (with_reducible apply go_seq)
             | (with_reducible apply go_region)
             | ((with_reducible apply go_cond_f); rfl; rfl)
             | ((with_reducible apply go_order); kernel_rfl; rfl)
             | (with_reducible apply go_ret)
             | (with_reducible apply go_skipc))
           | (with_reducible apply go_kseq)
           | (with_reducible apply go_ksuf)
           | ((with_reducible apply end_t2); rfl; rfl; rfl; rfl)
    rfl
  · have e : atE g p level = (.empty, askedE g p [level]) := by simp only [atE]; rw [if_pos h0]
    rw [e]
    refine contract_of mix Tryz.func33 rfl rfl (by rw [Tryz.ntmps33]; exact Nat.le_of_ble_eq_true rfl) ?_; rw [Tryz.results33, Tryz.ntmps33]; simp only [argsE, Nat.reduceAdd]
    repeat' first
           | (with_reducible apply go_op)
           | (with_reducible apply go_next)
           | ((with_reducible (show evOp _ _ _ _ _ _)); first
             | ((with_reducible (show evOp _ (.move _) _ _ _ _)) ; first | ((with_reducible apply go_mv_int); rfl; rfl) | ((with_reducible apply go_mv_str); rfl; rfl))
             | ((with_reducible apply go_as))
             | ((with_reducible (show evOp _ (.load _ _) _ _ _ _)) ; first | ((with_reducible apply go_ld_agg); rfl; rfl; rfl; rfl) | ((with_reducible apply go_load_own); rfl; rfl; rfl; rfl))
             | (((with_reducible apply go_fieldAddr_own); rfl; rfl; rfl))
             | (((with_reducible apply go_cmp); rfl; rfl; rfl; rfl))
             | (((with_reducible apply go_fn_int); rfl; (exact h96); rfl))
             | (((with_reducible apply go_bd1_agg); rfl; rfl; rfl; rfl))
             | (((with_reducible apply go_bx_agg); rfl; rfl; (exact Nat.le_of_ble_eq_true rfl); rfl; rfl))
             | (((with_reducible apply go_bs1_int); rfl; rfl; rfl)))
           | ((with_reducible (show evOps _ _ _ _ _ _)); first
             | (with_reducible apply go_nil)
             | ((with_reducible apply go_pre); rfl))
           | ((with_reducible (show evG _ _ _ _ _)); first
             | (with_reducible apply go_seq)
             | (with_reducible apply go_region)
             | (((with_reducible apply go_cond); rfl) <;> (intro h; simp only [h]; try simp only [decide_eq_true_eq, decide_eq_false_iff_not, Bool.not_eq_true', Bool.not_eq_false', Bool.not_true, Bool.not_false] at h; try exact absurd trivial h))
             | ((with_reducible apply go_order); kernel_rfl; rfl)
             | (with_reducible apply go_ret)
             | (with_reducible apply go_skipc))
           | (with_reducible apply go_kseq)
           | (with_reducible apply go_kseq_ret)
           | ((with_reducible apply end_t2); rfl; rfl; rfl; rfl)
    all_goals first | (exact absurd ‹_› h0) | rfl

def nearRE (g : Ground) (p : Pt) : Int × Int := if askedE g p [] ≠ 0 then (0, askedE g p []) else (nearE g p, 0)
def enc2 (x : Int × Int) : D := .tup [.int .i64 x.1, .int .i64 x.2]
end Go.Pv.Soil

open Go Go.Proofs Go.Pv
set_option maxHeartbeats 1000000
set_option maxRecDepth 100000
set_option linter.unusedSimpArgs false
set_option linter.unusedVariables false
namespace Go.Pv.Soil

def laySoil (b : Boring) (k : Nat) : ByteArray := match b.layers[k]? with
  | some l => l.soil
  | none => .empty

end Go.Pv.Soil

open Go Go.Proofs Go.Pv
set_option maxHeartbeats 1000000
set_option maxRecDepth 100000
set_option linter.unusedSimpArgs false
set_option linter.unusedVariables false
namespace Go.Pv.Soil

structure Part where
  soil : ByteArray
  top : Int
  bottom : Int
def encPart (p : Part) : List D := [.str p.soil, .int .i64 p.top, .int .i64 p.bottom]
theorem scalPart : ScalF encPart 3 := fun _ => ⟨rfl, rfl⟩

def topOf (b : Boring) (i : Nat) (d : Int) : Int := match b.layers[i]? with
  | some l => l.top
  | none => d
def partAt (b : Boring) (f t : Int) (i : Nat) : Part := ⟨laySoil b i, if 0 < i then min f (topOf b i f) else f, if i + 1 < b.layers.length then max t (topOf b (i + 1) t) else t⟩
/-- The parts of a column by the first n layers. -/
def colE (b : Boring) (f t : Int) : Nat → List Part
  | 0 => []
  | n + 1 => if (partAt b f t n).bottom < (partAt b f t n).top then colE b f t n ++ [partAt b f t n] else colE b f t n
def columnE (g : Ground) (p : Pt) (f t : Int) : List Part := match g.borings[nearE g p]? with
  | some b => colE b f t b.layers.length
  | none => []
theorem colE_len (b : Boring) (f t : Int) : ∀ n, (colE b f t n).length ≤ n
  | 0 => Nat.le_refl _
  | n + 1 => by
    have := colE_len b f t n
    simp only [colE]
    split <;> simp <;> omega

theorem part_top {b : Boring} {f t : Int} {i : Nat} (hi : i < b.layers.length) : (partAt b f t i).top = if 0 < i then min f b.layers[i].top else f := by
  simp only [partAt, topOf, List.getElem?_eq_getElem hi]
theorem part_bot {b : Boring} {f t : Int} {i : Nat} : (partAt b f t i).bottom = if h : i + 1 < b.layers.length then max t b.layers[i + 1].top else t := by
  simp only [partAt, topOf]
  split
  · rename_i h; rw [List.getElem?_eq_getElem h]
  · rfl
theorem part_soil {b : Boring} {f t : Int} {i : Nat} (hi : i < b.layers.length) : (partAt b f t i).soil = b.layers[i].soil := by
  simp only [partAt, laySoil, List.getElem?_eq_getElem hi]
theorem colE_yes {b : Boring} {f t X Y : Int} {i : Nat} (h : Y < X) (hi : i < b.layers.length) (hx : (partAt b f t i).top = X) (hy : (partAt b f t i).bottom = Y) : colE b f t i ++ [⟨b.layers[i].soil, X, Y⟩] = colE b f t (i + 1) := by
  subst hx hy
  rw [← part_soil (f := f) (t := t) hi]
  show _ = if _ then _ else _
  rw [if_pos h]
theorem colE_no {b : Boring} {f t X Y : Int} {i : Nat} (h : ¬ Y < X) (hx : (partAt b f t i).top = X) (hy : (partAt b f t i).bottom = Y) : colE b f t i = colE b f t (i + 1) := by
  subst hx hy
  show _ = if _ then _ else _
  rw [if_neg h]

/-- A column and the error. -/
def columnRE (g : Ground) (p : Pt) (f t : Int) : List Part × Int := if askedE g p [f, t] ≠ 0 then ([], askedE g p [f, t]) else if f < t then ([], 9) else (columnE g p f t, 0)
def encCol (x : List Part × Int) : D := .tup [.fr 3 (x.1.map encPart), .int .i64 x.2]

end Go.Pv.Soil

open Go Go.Proofs Go.Pv
set_option maxHeartbeats 1000000
set_option maxRecDepth 100000
set_option linter.unusedSimpArgs false
set_option linter.unusedVariables false
namespace Go.Pv.Soil

end Go.Pv.Soil

open Go Go.Proofs Go.Pv
set_option maxHeartbeats 1000000
set_option maxRecDepth 100000
set_option linter.unusedSimpArgs false
set_option linter.unusedVariables false
namespace Go.Pv.Soil

end Go.Pv.Soil

open Go Go.Proofs Go.Pv
set_option maxHeartbeats 1000000
set_option maxRecDepth 100000
set_option linter.unusedSimpArgs false
set_option linter.unusedVariables false
namespace Go.Pv.Soil

/-- The inputs that the laws look at. -/
def slightB (b : Boring) : Bool := decide (b.name.size ≤ 50) && decide (b.layers.length ≤ 14) && b.layers.all fun l => decide (l.soil.size ≤ 50)
def slightE (g : Ground) : Bool := decide (g.soils.length ≤ 10) && decide (g.borings.length ≤ 22) && g.soils.all (fun s => decide (s.name.size ≤ 50)) && g.borings.all slightB

theorem slight_soil {g : Ground} {i : Nat} (hi : i < g.soils.length) (h : ¬ g.soils[i].name.size ≤ 50) : false = slightE g := by
  have : g.soils.all (fun s => decide (s.name.size ≤ 50)) = false := by
    rw [List.all_eq_false]
    exact ⟨_, List.getElem_mem hi, by simpa using h⟩
  simp only [slightE, this, Bool.and_false, Bool.false_and]
theorem slight_bor {g : Ground} {i : Nat} (hi : i < g.borings.length) (h : slightB g.borings[i] = false) : false = slightE g := by
  have : g.borings.all slightB = false := by
    rw [List.all_eq_false]
    exact ⟨_, List.getElem_mem hi, by simp [h]⟩
  simp only [slightE, this, Bool.and_false]
theorem slightB_lay {b : Boring} {i : Nat} (hi : i < b.layers.length) (h : ¬ b.layers[i].soil.size ≤ 50) : slightB b = false := by
  have : (b.layers.all fun l => decide (l.soil.size ≤ 50)) = false := by
    rw [List.all_eq_false]
    exact ⟨_, List.getElem_mem hi, by simpa using h⟩
  simp only [slightB, this, Bool.and_false]
theorem slightB_no {b : Boring} (h : ¬ b.name.size ≤ 50 ∨ ¬ b.layers.length ≤ 14) : slightB b = false := by
  rcases h with h | h
  · simp only [slightB, decide_eq_false h, Bool.false_and]
  · simp only [slightB, decide_eq_false h, Bool.and_false, Bool.false_and]
theorem slightB_yes {b : Boring} (h1 : b.name.size ≤ 50) (h2 : b.layers.length ≤ 14) (h : ∀ i (hi : i < b.layers.length), b.layers[i].soil.size ≤ 50) : slightB b = true := by
  simp only [slightB, Bool.and_eq_true, decide_eq_true_eq, List.all_eq_true]
  refine ⟨⟨h1, h2⟩, fun l hl => ?_⟩
  obtain ⟨i, hi, rfl⟩ := List.mem_iff_getElem.1 hl
  exact h i hi
theorem slight_yes {g : Ground} (h1 : g.soils.length ≤ 10) (h2 : g.borings.length ≤ 22) (h3 : ∀ i (hi : i < g.soils.length), g.soils[i].name.size ≤ 50) (h4 : ∀ i (hi : i < g.borings.length), slightB g.borings[i] = true) : true = slightE g := by
  symm
  simp only [slightE, Bool.and_eq_true, decide_eq_true_eq, List.all_eq_true]
  refine ⟨⟨⟨h1, h2⟩, fun l hl => ?_⟩, fun l hl => ?_⟩
  · obtain ⟨i, hi, rfl⟩ := List.mem_iff_getElem.1 hl
    exact h3 i hi
  · obtain ⟨i, hi, rfl⟩ := List.mem_iff_getElem.1 hl
    exact h4 i hi

end Go.Pv.Soil

open Go Go.Proofs Go.Pv
set_option maxHeartbeats 1000000
set_option maxRecDepth 100000
set_option linter.unusedSimpArgs false
set_option linter.unusedVariables false
namespace Go.Pv.Soil

def okB (o : Option Outc) : Bool := match o with | some (.ret (.bool b)) => b | _ => false
theorem okB_ok {f : FuncId} {ds : List D} {n k : Nat} (h : okB (runF Tryz.prog n k f ds) = true) : Contract Tryz.prog f ds (.ret (.bool true)) := by
  refine runF_ok mix k f ds _ (fuel := n) ?_
  unfold okB at h
  split at h
  · rename_i b hb; rw [hb, h]
  · cases h

/-- The document's examples hold: worked out. -/
theorem c18 : Contract Tryz.prog 6 [] (.ret (.bool true)) := okB_ok (n := 1000) (k := 20) (by kernel_rfl)

theorem slight_len {g : Ground} (h : slightE g = true) : g.soils.length ≤ 10 ∧ g.borings.length ≤ 22 := by
  simp only [slightE, Bool.and_eq_true, decide_eq_true_eq] at h
  exact ⟨h.1.1.1, h.1.1.2⟩

end Go.Pv.Soil

open Go Go.Proofs Go.Pv
set_option maxHeartbeats 2000000
set_option maxRecDepth 100000
set_option linter.unusedSimpArgs false
set_option linter.unusedVariables false
namespace Go.Pv.Soil

/-- The error of a ground and a place. -/
def gpE (g : Ground) (p : Pt) : Int := if groundE g ≠ 0 then groundE g else if ptOK p = false then 2 else 0

theorem asked_gp {g : Ground} {p : Pt} {l : List Int} (h : gpE g p ≠ 0) : askedE g p l = gpE g p := by
  unfold gpE at h ⊢
  unfold askedE
  split
  · rfl
  · rename_i h1
    rw [if_neg h1] at h
    split at h
    · rename_i h2; rw [if_pos (.inl h2), if_pos h2]
    · omega
theorem asked_ok {g : Ground} {p : Pt} {l : List Int} (h : gpE g p = 0) : askedE g p l = if (l.any fun n => !lvOK n) = true then 2 else 0 := by
  unfold gpE at h
  unfold askedE
  split at h
  · omega
  · rename_i h1
    split at h
    · omega
    · rename_i h2
      rw [if_neg h1]
      simp [h2]
theorem gp_ok {g : Ground} {p : Pt} (h : gpE g p = 0) : groundE g = 0 ∧ ptOK p = true := by
  unfold gpE at h
  split at h
  · omega
  · rename_i h1
    split at h
    · omega
    · rename_i h2
      exact ⟨by simpa using h1, by simpa using h2⟩

def encAt2 (x : Int × Int) : List D := [.int .i64 x.1, .int .i64 x.2]

end Go.Pv.Soil

open Go Go.Proofs Go.Pv
set_option maxHeartbeats 2000000
set_option maxRecDepth 100000
set_option linter.unusedSimpArgs false
set_option linter.unusedVariables false
namespace Go.Pv.Soil

theorem tops {s : List Soil} {b : Boring} (hb : OkBoring s b) {i : Nat} : ∀ {j : Nat} (h : i < j) (hj : j < b.layers.length), b.layers[j].top < (b.layers[i]'(by omega)).top
  | j + 1, h, hj => by
    have h1 := (hb.lay (j + 1) hj).2.2 (by omega)
    by_cases he : i = j
    · subst he; exact h1
    · exact Int.lt_trans h1 (tops hb (j := j) (by omega) (by omega))

/-- The level behind n parts. -/
def lev (f : Int) (l : List Part) : Nat → Int
  | 0 => f
  | i + 1 => match l[i]? with
    | some x => x.bottom
    | none => 0
theorem lev_app {f : Int} {l : List Part} {x : Part} : ∀ {i : Nat}, i ≤ l.length → lev f (l ++ [x]) i = lev f l i
  | 0, _ => rfl
  | i + 1, h => by
    show (match (l ++ [x])[i]? with | some x => x.bottom | none => 0) = _
    rw [List.getElem?_append_left (by omega)]
    rfl
theorem lev_next {f : Int} {l : List Part} {i : Nat} (h : i < l.length) : lev f l (i + 1) = l[i].bottom := by
  show (match l[i]? with | some x => x.bottom | none => 0) = _
  rw [List.getElem?_eq_getElem h]

structure Good (b : Boring) (f t : Int) (l : List Part) (e : Int) : Prop where
  chain : ∀ i (h : i < l.length), l[i].top = lev f l i ∧ l[i].bottom < l[i].top
  last : lev f l l.length = e
  all : ∀ i (h : i < l.length), t ≤ l[i].bottom ∧ l[i].top ≤ f ∧ ∃ k, k < b.layers.length ∧ l[i] = partAt b f t k

def levE (b : Boring) (f t : Int) (n : Nat) : Int := if n = 0 then f else if h : n < b.layers.length then max t (min f b.layers[n].top) else t

theorem part_bds {b : Boring} {f t : Int} {n : Nat} : t ≤ (partAt b f t n).bottom ∧ (partAt b f t n).top ≤ f := by
  simp only [partAt]
  constructor <;> split <;> omega

theorem good_col {s : List Soil} {b : Boring} (hb : OkBoring s b) {f t : Int} (htf : t ≤ f) : ∀ n, n ≤ b.layers.length → Good b f t (colE b f t n) (levE b f t n)
  | 0, _ => ⟨fun i h => absurd h (Nat.not_lt_zero _), rfl, fun i h => absurd h (Nat.not_lt_zero _)⟩
  | n + 1, hn => by
    have ih := good_col hb htf n (by omega)
    have hlt : n < b.layers.length := hn
    have e1 := part_top (f := f) (t := t) hlt
    have e2 := part_bot (b := b) (f := f) (t := t) (i := n)
    have hbd := part_bds (b := b) (f := f) (t := t) (n := n)
    have ht : ∀ h : n + 1 < b.layers.length, b.layers[n + 1].top < b.layers[n].top := fun h => tops hb (by omega) h
    have hE : levE b f t (n + 1) = if h : n + 1 < b.layers.length then max t (min f b.layers[n + 1].top) else t := by
      unfold levE; rw [if_neg (by omega)]
    have hE0 : levE b f t n = if n = 0 then f else max t (min f b.layers[n].top) := by
      unfold levE; rw [dif_pos hlt]
    simp only [colE]
    split
    · rename_i h
      have htop : (partAt b f t n).top = levE b f t n := by
        rw [hE0, e1]
        by_cases h0 : n = 0
        · rw [if_pos h0, if_neg (by omega)]
        · rw [if_neg h0, if_pos (by omega)]
          rw [e1, if_pos (by omega)] at h
          omega
      have hbot : (partAt b f t n).bottom = levE b f t (n + 1) := by
        rw [hE]
        by_cases h1 : n + 1 < b.layers.length
        · rw [e2, dif_pos h1, dif_pos h1]
          rw [e2, dif_pos h1] at h
          omega
        · rw [e2, dif_neg h1, dif_neg h1]
      refine ⟨fun i hi => ?_, ?_, fun i hi => ?_⟩
      · rw [List.length_append, List.length_singleton] at hi
        rw [lev_app (by omega)]
        by_cases he : i = (colE b f t n).length
        · subst he
          simp only [List.getElem_concat_length]
          exact ⟨by rw [htop, ih.last], h⟩
        · rw [List.getElem_append_left (by omega)]
          exact ih.chain i (by omega)
      · rw [List.length_append, List.length_singleton, lev_next (by simp)]
        simp only [List.getElem_concat_length]
        exact hbot
      · rw [List.length_append, List.length_singleton] at hi
        by_cases he : i = (colE b f t n).length
        · subst he
          simp only [List.getElem_concat_length]
          exact ⟨hbd.1, hbd.2, n, hlt, rfl⟩
        · rw [List.getElem_append_left (by omega)]
          exact ih.all i (by omega)
    · rename_i h
      have hsame : levE b f t n = levE b f t (n + 1) := by
        rw [hE, hE0]
        by_cases h1 : n + 1 < b.layers.length
        · have := ht h1
          rw [dif_pos h1]
          rw [e2, dif_pos h1, e1] at h
          by_cases h0 : n = 0
          · rw [if_neg (by omega)] at h
            rw [if_pos h0]; omega
          · rw [if_pos (by omega)] at h
            rw [if_neg h0]; omega
        · rw [dif_neg h1]
          rw [e2, dif_neg h1, e1] at h
          by_cases h0 : n = 0
          · rw [if_neg (by omega)] at h
            rw [if_pos h0]; omega
          · rw [if_pos (by omega)] at h
            rw [if_neg h0]; omega
      rw [← hsame]
      exact ih

theorem part_layer {s : List Soil} {b : Boring} (hb : OkBoring s b) {f t lv : Int} {k : Nat} (hk : k < b.layers.length) (h1 : (partAt b f t k).bottom < lv) (h2 : lv ≤ (partAt b f t k).top) : layerE b lv = k := by
  rw [part_bot] at h1
  rw [part_top hk] at h2
  have hall : ∀ j, k < j → j < b.layers.length → topAt b lv j = false := by
    intro j hj hl
    rw [topAt_at hl]
    have h3 : k + 1 < b.layers.length := by omega
    rw [dif_pos h3] at h1
    by_cases he : j = k + 1
    · subst he; simp; omega
    · have := tops hb (i := k + 1) (j := j) (by omega) hl
      simp; omega
  by_cases h0 : k = 0
  · subst h0
    exact lastE_zero fun j h h' => hall j h h'
  · rw [if_pos (by omega)] at h2
    exact lastE_at hk (by rw [topAt_at hk]; simp; omega) hall

theorem levE_end {s : List Soil} {b : Boring} (hb : OkBoring s b) {f t : Int} : levE b f t b.layers.length = t := by
  have := hb.len
  unfold levE
  rw [if_neg (by omega), dif_neg (by omega)]

theorem col_good {g : Ground} (hg : OkG g) {p : Pt} {f t : Int} (htf : t ≤ f) :
    (∀ i (h : i < (columnE g p f t).length), (columnE g p f t)[i].top = lev f (columnE g p f t) i ∧ (columnE g p f t)[i].bottom < (columnE g p f t)[i].top ∧ t ≤ (columnE g p f t)[i].bottom ∧ (columnE g p f t)[i].top ≤ f ∧ ∀ lv, (columnE g p f t)[i].bottom < lv → lv ≤ (columnE g p f t)[i].top → soilAt g p lv = (columnE g p f t)[i].soil) ∧ lev f (columnE g p f t) (columnE g p f t).length = t := by
  have hn := near_lt (p := p) hg.n.1
  have hb := hg.bor _ hn
  have e : columnE g p f t = colE g.borings[nearE g p] f t g.borings[nearE g p].layers.length := by
    simp only [columnE, List.getElem?_eq_getElem hn]
  rw [e]
  have hG := good_col hb htf g.borings[nearE g p].layers.length (Nat.le_refl _)
  refine ⟨fun i h => ?_, by rw [hG.last, levE_end hb]⟩
  obtain ⟨h1, h2⟩ := hG.chain i h
  obtain ⟨h3, h4, k, hk, hx⟩ := hG.all i h
  refine ⟨h1, h2, h3, h4, fun lv h5 h6 => ?_⟩
  rw [hx] at h5 h6 ⊢
  have hl := part_layer hb hk h5 h6
  simp only [soilAt, List.getElem?_eq_getElem hn, hl, List.getElem?_eq_getElem hk, part_soil hk]

theorem tmod_rng {n m : Int} (hm : 0 < m) : n % m = n.tmod m % m ∧ -m < n.tmod m ∧ n.tmod m < m := by
  refine ⟨?_, ?_, ?_⟩
  · conv => lhs; rw [← Int.tmod_add_mul_tdiv n m]
    rw [Int.add_mul_emod_self_left]
  · have := Int.lt_tmod_of_pos n hm; omega
  · exact Int.tmod_lt_of_pos n hm

theorem c44 (n m : Int) (hm : 0 < m ∧ m ≤ 4611686018427387904) : Contract Tryz.prog 143 [.int .i64 n, .int .i64 m] (.ret (.int .i64 (n % m))) := by
  obtain ⟨h1, h2, h3⟩ := tmod_rng (n := n) hm.1
  refine contract_of mix Tryz.func143 rfl rfl (by rw [Tryz.ntmps143]; exact Nat.le_of_ble_eq_true rfl) ?_; rw [Tryz.results143, Tryz.ntmps143]; simp only [argsE, Nat.reduceAdd]
  repeat' first
           | (with_reducible apply go_op)
           | (with_reducible apply go_next)
           | ((with_reducible (show evOp _ _ _ _ _ _)); first
             | (((with_reducible apply go_mv_int); rfl; rfl))
             | ((with_reducible apply go_as))
             | ((with_reducible (show evOp _ (.binOp _ _ _ _ _) _ _ _ _)) ; first | ((with_reducible apply go_cmp); rfl; rfl; rfl; rfl) | ((with_reducible apply go_add); rfl; rfl; rfl; omega) | ((with_reducible apply go_rem); rfl; rfl; rfl; omega)))
           | ((with_reducible (show evOps _ _ _ _ _ _)); first
             | (with_reducible apply go_nil))
           | ((with_reducible (show evG _ _ _ _ _)); first
             | (with_reducible apply go_seq)
             | (with_reducible apply go_region)
             | (((with_reducible apply go_cond); rfl) <;> (intro h; simp only [h]; try simp only [decide_eq_true_eq, decide_eq_false_iff_not, Bool.not_eq_true', Bool.not_eq_false', Bool.not_true, Bool.not_false] at h; try exact absurd trivial h))
             | (with_reducible apply go_ret)
             | (with_reducible apply go_skipc))
           | (with_reducible apply go_kseq)
           | ((with_reducible apply end_int); rfl)
  · first | rw [wrap64 (by omega)] | skip
    rw [h1, ← Int.add_emod_right (n.tmod m) m, Int.emod_eq_of_lt (by omega) (by omega)]
  · rw [h1, Int.emod_eq_of_lt (by omega) (by omega)]

def encAt3 (x : Int × Int × Int) : List D := [.int .i64 x.1, .int .i64 x.2.1, .int .i64 x.2.2]
theorem lv_between {a b c : Int} (ha : lvOK a = true) (hb : lvOK b = true) (h : b ≤ c ∧ c ≤ a) : lvOK c = true := by
  simp only [lvOK, decide_eq_true_eq, Bool.and_eq_true] at ha hb ⊢
  omega
theorem lv_bds {a : Int} (ha : lvOK a = true) : -1000000 ≤ a ∧ a ≤ 1000000 := by
  simp only [lvOK, decide_eq_true_eq, Bool.and_eq_true] at ha
  omega

end Go.Pv.Soil

open Go Go.Proofs Go.Pv
set_option maxHeartbeats 2000000
set_option maxRecDepth 100000
set_option linter.unusedSimpArgs false
set_option linter.unusedVariables false
namespace Go.Pv.Soil

theorem c165v (l : List Int) (hl : l.length < 1000000000000) (g : FuncId) (ys : List D) (hst : Stab ys) (hpu : pureL ys = true) (p : Int → Bool) (hf : ∀ x ∈ l, Contract Tryz.prog g (.int .i64 x :: ys) (.ret (.bool (p x)))) :
    Contract Tryz.prog 90 [.sl (l.map encInt), .clo (.func g) [] ys] (.ret (.int .i64 (idxOf p l))) := by
  refine contract_of mix Tryz.func90 rfl rfl (by rw [Tryz.ntmps90]; exact Nat.le_of_ble_eq_true rfl) ?_; rw [Tryz.results90, Tryz.ntmps90]; simp only [argsE, Nat.reduceAdd]
  repeat' first
           | (with_reducible apply go_op)
           | (with_reducible apply go_next)
           | ((with_reducible (show evOp _ _ _ _ _ _)); first
             | ((with_reducible (show evOp _ (.move _) _ _ _ _)) ; first | ((with_reducible apply go_mv_int); rfl; rfl) | ((with_reducible apply go_mv_sl); rfl; rfl))
             | ((with_reducible apply go_as))
             | (((with_reducible apply go_len); rfl; rfl)))
           | ((with_reducible (show evOps _ _ _ _ _ _)); first
             | (with_reducible apply go_nil))
           | ((with_reducible (show evG _ _ _ _ _)); first
             | (with_reducible apply go_seq)
             | (with_reducible apply go_region)
             | (with_reducible apply go_block))
           | (with_reducible apply go_kseq)
  have e8 : ∀ i : Nat, (⟨[(8, .int .i64 i), (7, .int .i64 l.length), (0, .sl (l.map encInt)), (1, .clo (.func g) [] (renL [] ys))], [], 0, 19⟩ : St) = ⟨[(8, .int .i64 i), (7, .int .i64 l.length), (0, .sl (l.map encInt)), (1, .clo (.func g) [] ys)], [], 0, 19⟩ := fun i => by rw [renL_pure hpu]
  refine go_count l.length (fun i => ⟨[(8, .int .i64 i), (7, .int .i64 l.length), (0, .sl (l.map encInt)), (1, .clo (.func g) [] ys)], [], 0, 19⟩) (fun i => ∀ j (hj : j < i) (hj' : j < l.length), p l[j] = false) (entails_eq (k := 0) (ns := []) (ks := [8, 7, 0, 1]) [] rfl (by simp) (e8 _)) (by omega) ?_
  intro i hi hC
  repeat' first
           | (with_reducible apply go_op)
           | (with_reducible apply go_next)
           | ((with_reducible (show evOp _ _ _ _ _ _)); first
             | ((with_reducible (show evOp _ (.move _) _ _ _ _)) ; first | ((with_reducible apply go_mv_int); rfl; rfl) | ((with_reducible apply go_mv_sl); rfl; rfl) | ((with_reducible apply go_mv_clo); rfl; rfl))
             | ((with_reducible apply go_as))
             | (((with_reducible apply go_load); rfl; rfl; rfl))
             | (((with_reducible apply go_index_nat); rfl; rfl; (with_reducible rfl); (intro; rfl); rfl; omega; (intro hlt)))
             | (((with_reducible apply go_cmp); rfl; rfl; rfl; rfl)))
           | ((with_reducible (show evOps _ _ _ _ _ _)); first
             | (with_reducible apply go_nil))
           | ((with_reducible (show evG _ _ _ _ _)); first
             | (with_reducible apply go_seq)
             | (with_reducible apply go_region)
             | (((with_reducible apply go_cond); rfl) <;> (intro h; simp only [h]; try simp only [decide_eq_true_eq, decide_eq_false_iff_not, Bool.not_eq_true', Bool.not_eq_false', Bool.not_true, Bool.not_false] at h; try exact absurd trivial h))
             | (with_reducible apply go_ret)
             | (with_reducible apply go_skipc)
             | (with_reducible apply go_block)
             | (with_reducible apply go_exit))
           | (with_reducible apply go_kseq)
           | (with_reducible apply go_kblock_exit)
           | (with_reducible apply go_kseq_exit)
           | ((with_reducible apply end_int); rfl)
  · refine go_clo_bool rfl rfl hst (hf l[i] (List.getElem_mem _)) rfl ?_
    repeat' first
           | (with_reducible apply go_op)
           | (with_reducible apply go_next)
           | ((with_reducible (show evOp _ _ _ _ _ _)); first
             | (((with_reducible apply go_mv_int); rfl; rfl))
             | ((with_reducible apply go_as))
             | (((with_reducible apply go_add); rfl; rfl; rfl; omega)))
           | ((with_reducible (show evOps _ _ _ _ _ _)); first
             | (with_reducible apply go_nil))
           | ((with_reducible (show evG _ _ _ _ _)); first
             | (with_reducible apply go_seq)
             | (with_reducible apply go_region)
             | (((with_reducible apply go_cond); rfl) <;> (intro h; simp only [h]; try simp only [decide_eq_true_eq, decide_eq_false_iff_not, Bool.not_eq_true', Bool.not_eq_false', Bool.not_true, Bool.not_false] at h; try exact absurd trivial h))
             | (with_reducible apply go_ret)
             | (with_reducible apply go_skipc))
           | (with_reducible apply go_kseq)
           | (with_reducible apply go_kseq_ret)
           | (with_reducible apply go_kblock)
           | (with_reducible apply go_kblock_ret)
           | ((with_reducible apply end_int); rfl)
    · have h2 : i < l.length := by omega
      exact (idxOf_some h2 h fun j hj => hC j hj (by omega)).symm
    · have h2 : i < l.length := by omega
      refine ⟨by omega, fun j hj hj' => ?_, entails_eq (k := 0) (ns := []) (ks := [8, 7, 0, 1]) [] rfl (by simp) (e8 _)⟩
      rcases Nat.lt_succ_iff_lt_or_eq.1 hj with h' | rfl
      · exact hC j h' hj'
      · exact h
  · refine (idxOf_none fun x hx => ?_).symm
    obtain ⟨j, hj, rfl⟩ := List.mem_iff_getElem.1 hx
    exact hC j (by omega) hj


theorem c124v (l : List Int) (hl : l.length < 1000000000000) (g : FuncId) (ys : List D) (hst : Stab ys) (hpu : pureL ys = true) (p : Int → Bool) (hf : ∀ x ∈ l, Contract Tryz.prog g (.int .i64 x :: ys) (.ret (.bool (p x)))) :
    Contract Tryz.prog 61 [.sl (l.map encInt), .clo (.func g) [] ys] (.ret (.bool (l.any p))) := by
  refine contract_of mix Tryz.func61 rfl rfl (by rw [Tryz.ntmps61]; exact Nat.le_of_ble_eq_true rfl) ?_; rw [Tryz.results61, Tryz.ntmps61]; simp only [argsE, Nat.reduceAdd]
  repeat' first
           | (with_reducible apply go_op)
           | (with_reducible apply go_next)
           | ((with_reducible (show evOp _ _ _ _ _ _)); first
             | ((with_reducible (show evOp _ (.move _) _ _ _ _)) ; first | ((with_reducible apply go_mv_bool); rfl; rfl) | ((with_reducible apply go_mv_sl); rfl; rfl) | ((with_reducible apply go_mv_clo); rfl; rfl))
             | ((with_reducible apply go_as)))
           | ((with_reducible (show evOps _ _ _ _ _ _)); first
             | (with_reducible apply go_nil))
           | ((with_reducible (show evG _ _ _ _ _)); first
             | (with_reducible apply go_seq)
             | (with_reducible apply go_region))
           | (with_reducible apply go_kseq)
  refine go_fn_int (args' := [.sl (l.map encInt), .clo (.func g) [] ys]) ?_ (c165v l hl g ys hst hpu p hf) rfl ?_
  · have e := hst (lkH []) 45
    simp only [List.map_cons, List.map_nil, evalD, lkE, purL, pur, Option.bind_some, Option.map_some, Nat.reduceEqDiff, if_true, if_false, e]
  repeat' first
           | (with_reducible apply go_op)
           | (with_reducible apply go_next)
           | ((with_reducible (show evOp _ _ _ _ _ _)); first
             | (((with_reducible apply go_mv_bool); rfl; rfl))
             | ((with_reducible apply go_as))
             | (((with_reducible apply go_cmp); rfl; rfl; rfl; rfl)))
           | ((with_reducible (show evOps _ _ _ _ _ _)); first
             | (with_reducible apply go_nil))
           | ((with_reducible (show evG _ _ _ _ _)); first
             | (with_reducible apply go_ret))
           | (with_reducible apply go_kseq)
           | ((with_reducible apply end_bool); rfl)
  exact idxOf_ge

theorem c198 (n lo hi : Int) : Contract Tryz.prog 140 [.int .i64 n, .ptr [.int .i64 lo], .ptr [.int .i64 hi]] (.ret (.bool (decide (n < lo ∨ hi < n)))) := by
  refine contract_of mix Tryz.func140 rfl rfl (by rw [Tryz.ntmps140]; exact Nat.le_of_ble_eq_true rfl) ?_; rw [Tryz.results140, Tryz.ntmps140]; simp only [argsE, Nat.reduceAdd]
  repeat' first
           | (with_reducible apply go_op)
           | (with_reducible apply go_next)
           | ((with_reducible (show evOp _ _ _ _ _ _)); first
             | ((with_reducible (show evOp _ (.move _) _ _ _ _)) ; first | ((with_reducible apply go_mv_int); rfl; rfl) | ((with_reducible apply go_mv_bool); rfl; rfl))
             | ((with_reducible apply go_as))
             | (((with_reducible apply go_load); rfl; rfl; rfl))
             | (((with_reducible apply go_cmp); rfl; rfl; rfl; rfl))
             | (((with_reducible apply go_pick); rfl; rfl; rfl)))
           | ((with_reducible (show evOps _ _ _ _ _ _)); first
             | (with_reducible apply go_nil)
             | ((with_reducible apply go_run); rfl; rfl)
             | ((with_reducible apply go_pass); rfl; rfl; rfl)
             | (((with_reducible apply go_guard); rfl) <;> (intro h; simp only [h, Bool.not_true, Bool.not_false]; (try with_reducible (refine ⟨rfl, ?_⟩)); try simp only [decide_eq_true_eq, decide_eq_false_iff_not, Bool.not_eq_true', Bool.not_eq_false', Bool.not_true, Bool.not_false] at h; try exact absurd trivial h)))
           | ((with_reducible (show evG _ _ _ _ _)); first
             | (with_reducible apply go_seq)
             | (with_reducible apply go_region)
             | (with_reducible apply go_ret))
           | (with_reducible apply go_kseq)
           | ((with_reducible apply end_bool); rfl)
  · exact decide_eq_decide.2 (by omega)
  · exact (decide_eq_true (.inl h)).symm

def betw (lo hi : Int) (l : List Int) : Bool := !l.any fun n => decide (n < lo ∨ hi < n)
theorem c174 (lo hi : Int) (l : List Int) (hl : l.length < 1000000000000) : Contract Tryz.prog 106 [.int .i64 lo, .int .i64 hi, .sl (l.map encInt)] (.ret (.bool (betw lo hi l))) := by
  refine contract_of mix Tryz.func106 rfl rfl (by rw [Tryz.ntmps106]; exact Nat.le_of_ble_eq_true rfl) ?_; rw [Tryz.results106, Tryz.ntmps106]; simp only [argsE, Nat.reduceAdd]
  repeat' first
           | (with_reducible apply go_op)
           | (with_reducible apply go_next)
           | ((with_reducible (show evOp _ _ _ _ _ _)); first
             | ((with_reducible (show evOp _ (.move _) _ _ _ _)) ; first | ((with_reducible apply go_mv_bool); rfl; rfl) | ((with_reducible apply go_mv_sl); rfl; rfl))
             | ((with_reducible apply go_as))
             | (((with_reducible apply go_bx_int); rfl; rfl))
             | (((with_reducible apply go_fn2); rfl; rfl; rfl)))
           | ((with_reducible (show evOps _ _ _ _ _ _)); first
             | (with_reducible apply go_nil))
           | ((with_reducible (show evG _ _ _ _ _)); first
             | (with_reducible apply go_seq)
             | (with_reducible apply go_region))
           | (with_reducible apply go_kseq)
  refine go_fn_bool (args' := [.sl (l.map encInt), .clo (.func 140) [] [.ptr [.int .i64 lo], .ptr [.int .i64 hi]]]) rfl (c124v l hl 140 _ (fun _ _ => rfl) rfl (fun n => decide (n < lo ∨ hi < n)) fun x _ => c198 x lo hi) rfl ?_
  repeat' first
           | (with_reducible apply go_op)
           | (with_reducible apply go_next)
           | ((with_reducible (show evOp _ _ _ _ _ _)); first
             | (((with_reducible apply go_mv_bool); rfl; rfl))
             | ((with_reducible apply go_as))
             | (((with_reducible apply go_not); rfl; rfl)))
           | ((with_reducible (show evOps _ _ _ _ _ _)); first
             | (with_reducible apply go_nil))
           | ((with_reducible (show evG _ _ _ _ _)); first
             | (with_reducible apply go_ret))
           | (with_reducible apply go_kseq)
           | ((with_reducible apply end_bool); rfl)
  rfl

theorem betw1 (lo hi n : Int) : betw lo hi [n] = decide (lo ≤ n ∧ n ≤ hi) := by
  simp only [betw, List.any_cons, List.any_nil, Bool.or_false, ← decide_not]
  exact decide_eq_decide.2 (by omega)
theorem betw2 (lo hi n m : Int) : betw lo hi [n, m] = decide ((lo ≤ n ∧ n ≤ hi) ∧ (lo ≤ m ∧ m ≤ hi)) := by
  simp only [betw, List.any_cons, List.any_nil, Bool.or_false, Bool.not_or, ← decide_not, ← Bool.decide_and]
  exact decide_eq_decide.2 (by omega)
theorem c174' (lo hi n : Int) : Contract Tryz.prog 106 [.int .i64 lo, .int .i64 hi, .sl [[.int .i64 n]]] (.ret (.bool (decide (lo ≤ n ∧ n ≤ hi)))) := betw1 lo hi n ▸ c174 lo hi [n] (by simp)
theorem c174'' (lo hi n m : Int) : Contract Tryz.prog 106 [.int .i64 lo, .int .i64 hi, .sl [[.int .i64 n], [.int .i64 m]]] (.ret (.bool (decide ((lo ≤ n ∧ n ≤ hi) ∧ (lo ≤ m ∧ m ≤ hi))))) := betw2 lo hi n m ▸ c174 lo hi [n, m] (by simp)

theorem c180 (n : Int) : Contract Tryz.prog 108 [.int .i64 n] (.ret (.bool (lvOK n))) := by
  refine contract_of mix Tryz.func108 rfl rfl (by rw [Tryz.ntmps108]; exact Nat.le_of_ble_eq_true rfl) ?_; rw [Tryz.results108, Tryz.ntmps108]; simp only [argsE, Nat.reduceAdd]
  repeat' first
           | (with_reducible apply go_op)
           | (with_reducible apply go_next)
           | ((with_reducible (show evOp _ _ _ _ _ _)); first
             | ((with_reducible (show evOp _ (.move _) _ _ _ _)) ; first | ((with_reducible apply go_mv_int); rfl; rfl) | ((with_reducible apply go_mv_bool); rfl; rfl))
             | ((with_reducible apply go_as))
             | (((with_reducible apply go_fn_bool); rfl; (exact c174' _ _ _); rfl))
             | (((with_reducible apply go_bs1_int); rfl; rfl; rfl)))
           | ((with_reducible (show evOps _ _ _ _ _ _)); first
             | (with_reducible apply go_nil))
           | ((with_reducible (show evG _ _ _ _ _)); first
             | (with_reducible apply go_seq)
             | (with_reducible apply go_region)
             | (with_reducible apply go_ret))
           | (with_reducible apply go_kseq)
           | ((with_reducible apply end_bool); rfl)
  rfl

/-- A level that is neither one nor empty. -/
def badLv (n : Int) : Bool := decide (n ≠ 30000) && !lvOK n
theorem c179 (n : Int) : Contract Tryz.prog 107 [.int .i64 n] (.ret (.bool (badLv n))) := by
  refine contract_of mix Tryz.func107 rfl rfl (by rw [Tryz.ntmps107]; exact Nat.le_of_ble_eq_true rfl) ?_; rw [Tryz.results107, Tryz.ntmps107]; simp only [argsE, Nat.reduceAdd]
  repeat' first
           | (with_reducible apply go_op)
           | (with_reducible apply go_next)
           | ((with_reducible (show evOp _ _ _ _ _ _)); first
             | ((with_reducible (show evOp _ (.move _) _ _ _ _)) ; first | ((with_reducible apply go_mv_int); rfl; rfl) | ((with_reducible apply go_mv_bool); rfl; rfl))
             | ((with_reducible apply go_as))
             | (((with_reducible apply go_cmp); rfl; rfl; rfl; rfl))
             | (((with_reducible apply go_fn_bool); rfl; (exact c180 _); rfl))
             | (((with_reducible apply go_not); rfl; rfl))
             | (((with_reducible apply go_pick); rfl; rfl; rfl)))
           | ((with_reducible (show evOps _ _ _ _ _ _)); first
             | (with_reducible apply go_nil)
             | ((with_reducible apply go_run); rfl; rfl)
             | ((with_reducible apply go_pass); rfl; rfl; rfl)
             | (((with_reducible apply go_guard); rfl) <;> (intro h; simp only [h, Bool.not_true, Bool.not_false]; (try with_reducible (refine ⟨rfl, ?_⟩)); try simp only [decide_eq_true_eq, decide_eq_false_iff_not, Bool.not_eq_true', Bool.not_eq_false', Bool.not_true, Bool.not_false] at h; try exact absurd trivial h)))
           | ((with_reducible (show evG _ _ _ _ _)); first
             | (with_reducible apply go_seq)
             | (with_reducible apply go_region)
             | (with_reducible apply go_ret))
           | (with_reducible apply go_kseq)
           | ((with_reducible apply end_bool); rfl)
  · simp [badLv, h]
  · simp [badLv, h]

structure Grid where
  x : Int
  y : Int
  side : Int
  cols : Int
  rows : Int
  levels : List Int
def encGrid (g : Grid) : List D := [.int .i64 g.x, .int .i64 g.y, .int .i64 g.side, .int .i64 g.cols, .int .i64 g.rows, .sl (g.levels.map encInt)]
def gridE (g : Grid) : Int :=
  if ¬ (((-1000000 ≤ g.x ∧ g.x ≤ 1000000) ∧ -1000000 ≤ g.y ∧ g.y ≤ 1000000) ∧ (100 ≤ g.side ∧ g.side ≤ 10000) ∧ (1 ≤ g.cols ∧ g.cols ≤ 1024) ∧ 1 ≤ g.rows ∧ g.rows ≤ 1024) then 2
  else if 1024 < g.cols * g.rows then 8
  else if 1000000 < g.x + g.cols * g.side ∨ 1000000 < g.y + g.rows * g.side then 2
  else if (g.levels.length : Int) ≠ g.cols * g.rows then 10
  else if g.levels.any badLv then 2 else 0

theorem mul_bd {a b m n : Int} (ha : 1 ≤ a ∧ a ≤ m) (hb : 1 ≤ b ∧ b ≤ n) : 1 ≤ a * b ∧ a * b ≤ m * n := by
  constructor
  · exact Int.le_trans (by decide : (1 : Int) ≤ 1 * 1) (Int.mul_le_mul ha.1 hb.1 (by omega) (by omega))
  · exact Int.mul_le_mul ha.2 hb.2 (by omega) (by omega)

theorem c144 (g : Grid) (hl : g.levels.length < 1000000000000) : Contract Tryz.prog 73 [.agg (encGrid g)] (.ret (.int .i64 (gridE g))) := by
  by_cases hg : ((-1000000 ≤ g.x ∧ g.x ≤ 1000000) ∧ -1000000 ≤ g.y ∧ g.y ≤ 1000000) ∧ (100 ≤ g.side ∧ g.side ≤ 10000) ∧ (1 ≤ g.cols ∧ g.cols ≤ 1024) ∧ 1 ≤ g.rows ∧ g.rows ≤ 1024
  · have b1 := mul_bd hg.2.2.1 hg.2.2.2
    have b2 := mul_bd hg.2.2.1 (b := g.side) (n := 10000) (by omega)
    have b3 := mul_bd hg.2.2.2 (b := g.side) (n := 10000) (by omega)
    refine contract_of mix Tryz.func73 rfl rfl (by rw [Tryz.ntmps73]; exact Nat.le_of_ble_eq_true rfl) ?_; rw [Tryz.results73, Tryz.ntmps73]; simp only [argsE, Nat.reduceAdd]
    repeat' first
           | (with_reducible apply go_op)
           | (with_reducible apply go_next)
           | ((with_reducible (show evOp _ _ _ _ _ _)); first
             | ((with_reducible (show evOp _ (.move _) _ _ _ _)) ; first | ((with_reducible apply go_mv_int); rfl; rfl) | ((with_reducible apply go_mv_bool); rfl; rfl))
             | ((with_reducible apply go_as))
             | (((with_reducible apply go_load_own); rfl; rfl; rfl; rfl))
             | (((with_reducible apply go_fieldAddr_own); rfl; rfl; rfl))
             | ((with_reducible (show evOp _ (.binOp _ _ _ _ _) _ _ _ _)) ; first | ((with_reducible apply go_cmp); rfl; rfl; rfl; rfl) | ((with_reducible apply go_add); rfl; rfl; rfl; omega) | ((with_reducible apply go_mul); rfl; rfl; rfl; omega))
             | ((with_reducible (show evOp _ (.call _) _ _ _ _)) ; first | ((with_reducible apply go_len); rfl; rfl) | ((with_reducible apply go_fn_bool); rfl; (exact c174' _ _ _); rfl) | ((with_reducible apply go_fn_bool); rfl; (exact c174'' _ _ _ _); rfl) | ((with_reducible apply go_fn_bool); rfl; (exact c124 g.levels hl 107 badLv fun x _ => c179 x); rfl))
             | (((with_reducible apply go_not); rfl; rfl))
             | (((with_reducible apply go_pick); rfl; rfl; rfl))
             | (((with_reducible apply go_bx_agg); rfl; rfl; (exact Nat.le_of_ble_eq_true rfl); rfl; rfl))
             | ((with_reducible (show evOp _ (.buildSlice _ _ _) _ _ _ _)) ; first | ((with_reducible apply go_bs1_int); rfl; rfl; rfl) | ((with_reducible apply go_bs2_int); rfl; rfl; rfl; rfl)))
           | ((with_reducible (show evOps _ _ _ _ _ _)); first
             | (with_reducible apply go_nil)
             | ((with_reducible apply go_run); rfl; rfl)
             | ((with_reducible apply go_pass); rfl; rfl; rfl)
             | (((with_reducible apply go_guard); rfl) <;> (intro h; simp only [h, Bool.not_true, Bool.not_false]; (try with_reducible (refine ⟨rfl, ?_⟩)); try simp only [decide_eq_true_eq, decide_eq_false_iff_not, Bool.not_eq_true', Bool.not_eq_false', Bool.not_true, Bool.not_false] at h; try exact absurd trivial h)))
           | ((with_reducible (show evG _ _ _ _ _)); first
             | (with_reducible apply go_seq)
             | (with_reducible apply go_region)
             | ((with_reducible apply go_cond_t); rfl; rfl)
             | (((with_reducible apply go_cond); rfl) <;> (intro h; simp only [h]; try simp only [decide_eq_true_eq, decide_eq_false_iff_not, Bool.not_eq_true', Bool.not_eq_false', Bool.not_true, Bool.not_false] at h; try exact absurd trivial h))
             | (with_reducible apply go_ret)
             | (with_reducible apply go_skipc)
             | (with_reducible apply go_block))
           | (with_reducible apply go_kseq)
           | (with_reducible apply go_kseq_ret)
           | (with_reducible apply go_kblock)
           | (with_reducible apply go_kblock_ret)
           | ((with_reducible apply end_int); rfl)
    all_goals (unfold gridE; (repeat' split) <;> first | rfl | (exfalso; omega) | (exfalso; simp_all; done))
  · have e : gridE g = 2 := by unfold gridE; rw [if_pos hg]
    rw [e]
    refine contract_of mix Tryz.func73 rfl rfl (by rw [Tryz.ntmps73]; exact Nat.le_of_ble_eq_true rfl) ?_; rw [Tryz.results73, Tryz.ntmps73]; simp only [argsE, Nat.reduceAdd]
    repeat' first
           | (with_reducible apply go_op)
           | (with_reducible apply go_next)
           | ((with_reducible (show evOp _ _ _ _ _ _)); first
             | ((with_reducible (show evOp _ (.move _) _ _ _ _)) ; first | ((with_reducible apply go_mv_int); rfl; rfl) | ((with_reducible apply go_mv_bool); rfl; rfl))
             | ((with_reducible apply go_as))
             | (((with_reducible apply go_load_own); rfl; rfl; rfl; rfl))
             | (((with_reducible apply go_fieldAddr_own); rfl; rfl; rfl))
             | ((with_reducible (show evOp _ (.binOp _ _ _ _ _) _ _ _ _)) ; first | ((with_reducible apply go_cmp); rfl; rfl; rfl; rfl) | ((with_reducible apply go_add); rfl; rfl; rfl; omega) | ((with_reducible apply go_mul); rfl; rfl; rfl; omega))
             | ((with_reducible (show evOp _ (.call _) _ _ _ _)) ; first | ((with_reducible apply go_len); rfl; rfl) | ((with_reducible apply go_fn_bool); rfl; (exact c174' _ _ _); rfl) | ((with_reducible apply go_fn_bool); rfl; (exact c174'' _ _ _ _); rfl))
             | (((with_reducible apply go_not); rfl; rfl))
             | (((with_reducible apply go_pick); rfl; rfl; rfl))
             | (((with_reducible apply go_bx_agg); rfl; rfl; (exact Nat.le_of_ble_eq_true rfl); rfl; rfl))
             | ((with_reducible (show evOp _ (.buildSlice _ _ _) _ _ _ _)) ; first | ((with_reducible apply go_bs1_int); rfl; rfl; rfl) | ((with_reducible apply go_bs2_int); rfl; rfl; rfl; rfl)))
           | ((with_reducible (show evOps _ _ _ _ _ _)); first
             | (with_reducible apply go_nil)
             | ((with_reducible apply go_run); rfl; rfl)
             | ((with_reducible apply go_pass); rfl; rfl; rfl)
             | (((with_reducible apply go_guard); rfl) <;> (intro h; simp only [h, Bool.not_true, Bool.not_false]; (try with_reducible (refine ⟨rfl, ?_⟩)); try simp only [decide_eq_true_eq, decide_eq_false_iff_not, Bool.not_eq_true', Bool.not_eq_false', Bool.not_true, Bool.not_false] at h; try exact absurd trivial h)))
           | ((with_reducible (show evG _ _ _ _ _)); first
             | (with_reducible apply go_seq)
             | (with_reducible apply go_region)
             | ((with_reducible apply go_cond_t); rfl; rfl)
             | (((with_reducible apply go_cond); rfl) <;> (intro h; simp only [h]; try simp only [decide_eq_true_eq, decide_eq_false_iff_not, Bool.not_eq_true', Bool.not_eq_false', Bool.not_true, Bool.not_false] at h; try exact absurd trivial h))
             | (with_reducible apply go_ret)
             | (with_reducible apply go_block))
           | (with_reducible apply go_kseq)
           | (with_reducible apply go_kseq_ret)
           | (with_reducible apply go_kblock_ret)
           | ((with_reducible apply end_int); rfl)
           | (with_reducible rfl)
    all_goals first | rfl | (exfalso; omega)

def alikeE (a b : Grid) : Bool := decide (a.x = b.x ∧ a.y = b.y ∧ a.side = b.side ∧ a.cols = b.cols ∧ a.rows = b.rows)
theorem c145 (a b : Grid) : Contract Tryz.prog 135 [.agg (encGrid a), .agg (encGrid b)] (.ret (.bool (alikeE a b))) := by
  refine contract_of mix Tryz.func135 rfl rfl (by rw [Tryz.ntmps135]; exact Nat.le_of_ble_eq_true rfl) ?_; rw [Tryz.results135, Tryz.ntmps135]; simp only [argsE, Nat.reduceAdd]
  repeat' first
           | (with_reducible apply go_op)
           | (with_reducible apply go_next)
           | ((with_reducible (show evOp _ _ _ _ _ _)); first
             | (((with_reducible apply go_mv_bool); rfl; rfl))
             | ((with_reducible apply go_as))
             | (((with_reducible apply go_load_own); rfl; rfl; rfl; rfl))
             | (((with_reducible apply go_fieldAddr_own); rfl; rfl; rfl))
             | (((with_reducible apply go_cmp); rfl; rfl; rfl; rfl))
             | (((with_reducible apply go_pick); rfl; rfl; rfl))
             | (((with_reducible apply go_bx_agg); rfl; rfl; (exact Nat.le_of_ble_eq_true rfl); rfl; rfl)))
           | ((with_reducible (show evOps _ _ _ _ _ _)); first
             | (with_reducible apply go_nil)
             | ((with_reducible apply go_run); rfl; rfl)
             | ((with_reducible apply go_pass); rfl; rfl; rfl)
             | (((with_reducible apply go_guard); rfl) <;> (intro h; simp only [h, Bool.not_true, Bool.not_false]; (try with_reducible (refine ⟨rfl, ?_⟩)); try simp only [decide_eq_true_eq, decide_eq_false_iff_not, Bool.not_eq_true', Bool.not_eq_false', Bool.not_true, Bool.not_false] at h; try exact absurd trivial h)))
           | ((with_reducible (show evG _ _ _ _ _)); first
             | (with_reducible apply go_seq)
             | (with_reducible apply go_region)
             | (with_reducible apply go_ret))
           | (with_reducible apply go_kseq)
           | ((with_reducible apply end_bool); rfl)
  all_goals simp [alikeE, *]
theorem c28 (g : Grid) (hl : g.levels.length < 1000000000000) : Contract Tryz.prog 13 [.agg (encGrid g)] (.ret (.int .i64 (gridE g))) := by
  by_cases hg : ((-1000000 ≤ g.x ∧ g.x ≤ 1000000) ∧ -1000000 ≤ g.y ∧ g.y ≤ 1000000) ∧ (100 ≤ g.side ∧ g.side ≤ 10000) ∧ (1 ≤ g.cols ∧ g.cols ≤ 1024) ∧ 1 ≤ g.rows ∧ g.rows ≤ 1024
  · have b1 := mul_bd hg.2.2.1 hg.2.2.2
    have b2 := mul_bd hg.2.2.1 (b := g.side) (n := 10000) (by omega)
    have b3 := mul_bd hg.2.2.2 (b := g.side) (n := 10000) (by omega)
    refine contract_of mix Tryz.func13 rfl rfl (by rw [Tryz.ntmps13]; exact Nat.le_of_ble_eq_true rfl) ?_; rw [Tryz.results13, Tryz.ntmps13]; simp only [argsE, Nat.reduceAdd]
    repeat' first
           | (with_reducible apply go_op)
           | (with_reducible apply go_next)
           | ((with_reducible (show evOp _ _ _ _ _ _)); first
             | ((with_reducible (show evOp _ (.move _) _ _ _ _)) ; first | ((with_reducible apply go_mv_int); rfl; rfl) | ((with_reducible apply go_mv_bool); rfl; rfl))
             | ((with_reducible apply go_as))
             | (((with_reducible apply go_load_own); rfl; rfl; rfl; rfl))
             | (((with_reducible apply go_fieldAddr_own); rfl; rfl; rfl))
             | ((with_reducible (show evOp _ (.binOp _ _ _ _ _) _ _ _ _)) ; first | ((with_reducible apply go_cmp); rfl; rfl; rfl; rfl) | ((with_reducible apply go_add); rfl; rfl; rfl; omega) | ((with_reducible apply go_mul); rfl; rfl; rfl; omega))
             | ((with_reducible (show evOp _ (.call _) _ _ _ _)) ; first | ((with_reducible apply go_len); rfl; rfl) | ((with_reducible apply go_fn_bool); rfl; (exact c38 _ _ _); rfl))
             | (((with_reducible apply go_not); rfl; rfl))
             | (((with_reducible apply go_pick); rfl; rfl; rfl))
             | (((with_reducible apply go_bx_agg); rfl; rfl; (exact Nat.le_of_ble_eq_true rfl); rfl; rfl)))
           | ((with_reducible (show evOps _ _ _ _ _ _)); first
             | (with_reducible apply go_nil)
             | ((with_reducible apply go_run); rfl; rfl)
             | ((with_reducible apply go_pass); rfl; rfl; rfl)
             | (((with_reducible apply go_guard); rfl) <;> (intro h; simp only [h, Bool.not_true, Bool.not_false]; (try with_reducible (refine ⟨rfl, ?_⟩)); try simp only [decide_eq_true_eq, decide_eq_false_iff_not, Bool.not_eq_true', Bool.not_eq_false', Bool.not_true, Bool.not_false] at h; try exact absurd trivial h)))
           | ((with_reducible (show evG _ _ _ _ _)); first
             | (with_reducible apply go_seq)
             | (with_reducible apply go_region)
             | ((with_reducible apply go_cond_t); rfl; rfl)
             | (((with_reducible apply go_cond); rfl) <;> (intro h; simp only [h]; try simp only [decide_eq_true_eq, decide_eq_false_iff_not, Bool.not_eq_true', Bool.not_eq_false', Bool.not_true, Bool.not_false] at h; try exact absurd trivial h))
             | (with_reducible apply go_ret)
             | (with_reducible apply go_skipc)
             | (with_reducible apply go_block))
           | (with_reducible apply go_kseq)
           | (with_reducible apply go_kseq_ret)
           | ((with_reducible apply end_int); rfl)
    all_goals first | (unfold gridE; (repeat' split) <;> first | rfl | (exfalso; omega) | (exfalso; simp_all; done)) | skip
    have e : gridE g = if g.levels.any badLv then 2 else 0 := by
      unfold gridE; rw [if_neg (by omega), if_neg (by omega), if_neg (by omega), if_neg (by omega)]
    rw [e]
    refine go_count (g.levels.length) (fun i => ⟨[(3, .int .i64 i), (1, .op 0 0 0)], [(0, ⟨6, true, [encGrid g]⟩)], 32, 89⟩) (fun i => ∀ j (hj : j < i) (hj' : j < g.levels.length), badLv g.levels[j] = false) (entails_eq (k := 0) (ns := []) (ks := [3, 1]) [(0, 0)] rfl (by simp) rfl) (fun j h _ => absurd h (Nat.not_lt_zero _)) ?_
    intro i hi hC
    repeat' first
           | (with_reducible apply go_op)
           | (with_reducible apply go_next)
           | ((with_reducible (show evOp _ _ _ _ _ _)); first
             | ((with_reducible (show evOp _ (.move _) _ _ _ _)) ; first | ((with_reducible apply go_mv_int); rfl; rfl) | ((with_reducible apply go_mv_bool); rfl; rfl))
             | ((with_reducible apply go_as))
             | ((with_reducible (show evOp _ (.load _ _) _ _ _ _)) ; first | ((with_reducible apply go_load); rfl; rfl; rfl) | ((with_reducible apply go_load_own); rfl; rfl; rfl; rfl))
             | (((with_reducible apply go_fieldAddr_own); rfl; rfl; rfl))
             | (((with_reducible apply go_index_nat); rfl; rfl; (with_reducible rfl); (intro; rfl); rfl; omega; (intro hlt)))
             | ((with_reducible (show evOp _ (.binOp _ _ _ _ _) _ _ _ _)) ; first | ((with_reducible apply go_cmp); rfl; rfl; rfl; rfl) | ((with_reducible apply go_add); rfl; rfl; rfl; omega))
             | ((with_reducible (show evOp _ (.call _) _ _ _ _)) ; first | ((with_reducible apply go_len); rfl; rfl) | ((with_reducible apply go_fn_bool); rfl; (exact c48 _); rfl))
             | (((with_reducible apply go_not); rfl; rfl))
             | (((with_reducible apply go_pick); rfl; rfl; rfl)))
           | ((with_reducible (show evOps _ _ _ _ _ _)); first
             | (with_reducible apply go_nil)
             | ((with_reducible apply go_run); rfl; rfl)
             | ((with_reducible apply go_pass); rfl; rfl; rfl)
             | (((with_reducible apply go_guard); rfl) <;> (intro h; simp only [h, Bool.not_true, Bool.not_false]; (try with_reducible (refine ⟨rfl, ?_⟩)); try simp only [decide_eq_true_eq, decide_eq_false_iff_not, Bool.not_eq_true', Bool.not_eq_false', Bool.not_true, Bool.not_false] at h; try exact absurd trivial h)))
           | ((with_reducible (show evG _ _ _ _ _)); first
             | (with_reducible apply go_seq)
             | (with_reducible apply go_region)
             | ((with_reducible apply go_cond_f); rfl; rfl)
             | (((with_reducible apply go_cond); rfl) <;> (intro h; simp only [h]; try simp only [decide_eq_true_eq, decide_eq_false_iff_not, Bool.not_eq_true', Bool.not_eq_false', Bool.not_true, Bool.not_false] at h; try exact absurd trivial h))
             | (with_reducible apply go_ret)
             | (with_reducible apply go_skipc)
             | (with_reducible apply go_block)
             | (with_reducible apply go_exit))
           | (with_reducible apply go_kseq)
           | (with_reducible apply go_kseq_ret)
           | (with_reducible apply go_kblock)
           | (with_reducible apply go_kblock_ret)
           | (with_reducible apply go_kblock_exit)
           | (with_reducible apply go_kseq_exit)
           | ((with_reducible apply end_int); rfl)
    · have h1 : ¬ g.levels[i] = 30000 := by assumption
      rw [if_pos (List.any_eq_true.2 ⟨g.levels[i], List.getElem_mem _, by simp [badLv, h, h1]⟩)]
    · have h2 : i < g.levels.length := by omega
      refine ⟨h2, fun j hj hj' => ?_, entails_eq (k := 0) (ns := []) (ks := [3, 1]) [(0, 0)] rfl (by simp) rfl⟩
      rcases Nat.lt_succ_iff_lt_or_eq.1 hj with h' | rfl
      · exact hC j h' hj'
      · simp [badLv, h]
    · have h2 : i < g.levels.length := by omega
      refine ⟨h2, fun j hj hj' => ?_, entails_eq (k := 0) (ns := []) (ks := [3, 1]) [(0, 0)] rfl (by simp) rfl⟩
      rcases Nat.lt_succ_iff_lt_or_eq.1 hj with h' | rfl
      · exact hC j h' hj'
      · simp [badLv, h]
    · rw [if_neg]
      intro hh
      obtain ⟨x, hx, hb⟩ := List.any_eq_true.1 hh
      obtain ⟨j, hj, rfl⟩ := List.mem_iff_getElem.1 hx
      rw [hC j (by omega) hj] at hb
      cases hb
  · have e : gridE g = 2 := by unfold gridE; rw [if_pos hg]
    rw [e]
    refine contract_of mix Tryz.func13 rfl rfl (by rw [Tryz.ntmps13]; exact Nat.le_of_ble_eq_true rfl) ?_; rw [Tryz.results13, Tryz.ntmps13]; simp only [argsE, Nat.reduceAdd]
    repeat' first
           | (with_reducible apply go_op)
           | (with_reducible apply go_next)
           | ((with_reducible (show evOp _ _ _ _ _ _)); first
             | ((with_reducible (show evOp _ (.move _) _ _ _ _)) ; first | ((with_reducible apply go_mv_int); rfl; rfl) | ((with_reducible apply go_mv_bool); rfl; rfl))
             | ((with_reducible apply go_as))
             | (((with_reducible apply go_load_own); rfl; rfl; rfl; rfl))
             | (((with_reducible apply go_fieldAddr_own); rfl; rfl; rfl))
             | ((with_reducible (show evOp _ (.binOp _ _ _ _ _) _ _ _ _)) ; first | ((with_reducible apply go_cmp); rfl; rfl; rfl; rfl) | ((with_reducible apply go_add); rfl; rfl; rfl; omega) | ((with_reducible apply go_mul); rfl; rfl; rfl; omega))
             | ((with_reducible (show evOp _ (.call _) _ _ _ _)) ; first | ((with_reducible apply go_len); rfl; rfl) | ((with_reducible apply go_fn_bool); rfl; (exact c38 _ _ _); rfl))
             | (((with_reducible apply go_not); rfl; rfl))
             | (((with_reducible apply go_pick); rfl; rfl; rfl))
             | (((with_reducible apply go_bx_agg); rfl; rfl; (exact Nat.le_of_ble_eq_true rfl); rfl; rfl)))
           | ((with_reducible (show evOps _ _ _ _ _ _)); first
             | (with_reducible apply go_nil)
             | ((with_reducible apply go_run); rfl; rfl)
             | ((with_reducible apply go_pass); rfl; rfl; rfl)
             | (((with_reducible apply go_guard); rfl) <;> (intro h; simp only [h, Bool.not_true, Bool.not_false]; (try with_reducible (refine ⟨rfl, ?_⟩)); try simp only [decide_eq_true_eq, decide_eq_false_iff_not, Bool.not_eq_true', Bool.not_eq_false', Bool.not_true, Bool.not_false] at h; try exact absurd trivial h)))
           | ((with_reducible (show evG _ _ _ _ _)); first
             | (with_reducible apply go_seq)
             | (with_reducible apply go_region)
             | ((with_reducible apply go_cond_t); rfl; rfl)
             | (((with_reducible apply go_cond); rfl) <;> (intro h; simp only [h]; try simp only [decide_eq_true_eq, decide_eq_false_iff_not, Bool.not_eq_true', Bool.not_eq_false', Bool.not_true, Bool.not_false] at h; try exact absurd trivial h))
             | (with_reducible apply go_ret)
             | (with_reducible apply go_skipc)
             | (with_reducible apply go_block))
           | (with_reducible apply go_kseq)
           | (with_reducible apply go_kseq_ret)
           | ((with_reducible apply end_int); rfl)
           | (with_reducible rfl)
    all_goals first | rfl | (exfalso; omega)
end Go.Pv.Soil

open Go Go.Proofs Go.Pv
set_option maxHeartbeats 4000000
set_option maxRecDepth 100000
set_option linter.unusedSimpArgs false
set_option linter.unusedVariables false
namespace Go.Pv.Soil

structure Sample where
  name : ByteArray
  sub : ByteArray
  x : Int
  y : Int
  top : Int
  bottom : Int
  value : Int
def encSample (s : Sample) : List D := [.str s.name, .str s.sub, .int .i64 s.x, .int .i64 s.y, .int .i64 s.top, .int .i64 s.bottom, .int .i64 s.value]
theorem scalSample : ScalF encSample 7 := fun _ => ⟨rfl, rfl⟩

theorem c182 (l : List Sample) (hl : l.length < 1000000000000) (g : FuncId) (ys : List D) (hst : Stab ys) (hpu : pureL ys = true) (p : Sample → Bool) (hf : ∀ x ∈ l, Contract Tryz.prog g (.agg (encSample x) :: ys) (.ret (.bool (p x)))) :
    Contract Tryz.prog 89 [.sl (l.map encSample), .clo (.func g) [] ys] (.ret (.int .i64 (idxOf p l))) := by
  refine contract_of mix Tryz.func89 rfl rfl (by rw [Tryz.ntmps89]; exact Nat.le_of_ble_eq_true rfl) ?_; rw [Tryz.results89, Tryz.ntmps89]; simp only [argsE, Nat.reduceAdd]
  repeat' first
           | (with_reducible apply go_op)
           | (with_reducible apply go_next)
           | ((with_reducible (show evOp _ _ _ _ _ _)); first
             | ((with_reducible (show evOp _ (.move _) _ _ _ _)) ; first | ((with_reducible apply go_mv_int); rfl; rfl) | ((with_reducible apply go_mv_sl); rfl; rfl))
             | ((with_reducible apply go_as))
             | (((with_reducible apply go_len); rfl; rfl)))
           | ((with_reducible (show evOps _ _ _ _ _ _)); first
             | (with_reducible apply go_nil))
           | ((with_reducible (show evG _ _ _ _ _)); first
             | (with_reducible apply go_seq)
             | (with_reducible apply go_region)
             | (with_reducible apply go_block))
           | (with_reducible apply go_kseq)
  have e8 : ∀ i : Nat, (⟨[(8, .int .i64 i), (7, .int .i64 l.length), (0, .sl (l.map encSample)), (1, .clo (.func g) [] (renL [] ys))], [], 0, 19⟩ : St) = ⟨[(8, .int .i64 i), (7, .int .i64 l.length), (0, .sl (l.map encSample)), (1, .clo (.func g) [] ys)], [], 0, 19⟩ := fun i => by rw [renL_pure hpu]
  refine go_count l.length (fun i => ⟨[(8, .int .i64 i), (7, .int .i64 l.length), (0, .sl (l.map encSample)), (1, .clo (.func g) [] ys)], [], 0, 19⟩) (fun i => ∀ j (hj : j < i) (hj' : j < l.length), p l[j] = false) (entails_eq (k := 0) (ns := []) (ks := [8, 7, 0, 1]) [] rfl (by simp) (e8 _)) (by omega) ?_
  intro i hi hC
  repeat' first
           | (with_reducible apply go_op)
           | (with_reducible apply go_next)
           | ((with_reducible (show evOp _ _ _ _ _ _)); first
             | ((with_reducible (show evOp _ (.move _) _ _ _ _)) ; first | ((with_reducible apply go_mv_int); rfl; rfl) | ((with_reducible apply go_mv_sl); rfl; rfl) | ((with_reducible apply go_mv_clo); rfl; rfl))
             | ((with_reducible apply go_as))
             | (((with_reducible apply go_ld_ptr); rfl; rfl; rfl))
             | (((with_reducible apply go_index_nat); rfl; rfl; (with_reducible rfl); (intro; rfl); rfl; omega; (intro hlt)))
             | (((with_reducible apply go_cmp); rfl; rfl; rfl; rfl)))
           | ((with_reducible (show evOps _ _ _ _ _ _)); first
             | (with_reducible apply go_nil))
           | ((with_reducible (show evG _ _ _ _ _)); first
             | (with_reducible apply go_seq)
             | (with_reducible apply go_region)
             | (((with_reducible apply go_cond); rfl) <;> (intro h; simp only [h]; try simp only [decide_eq_true_eq, decide_eq_false_iff_not, Bool.not_eq_true', Bool.not_eq_false', Bool.not_true, Bool.not_false] at h; try exact absurd trivial h))
             | (with_reducible apply go_ret)
             | (with_reducible apply go_skipc)
             | (with_reducible apply go_block)
             | (with_reducible apply go_exit))
           | (with_reducible apply go_kseq)
           | (with_reducible apply go_kblock_exit)
           | (with_reducible apply go_kseq_exit)
           | ((with_reducible apply end_int); rfl)
  · refine go_clo_bool rfl rfl hst (hf l[i] (List.getElem_mem _)) rfl ?_
    repeat' first
           | (with_reducible apply go_op)
           | (with_reducible apply go_next)
           | ((with_reducible (show evOp _ _ _ _ _ _)); first
             | (((with_reducible apply go_mv_int); rfl; rfl))
             | ((with_reducible apply go_as))
             | (((with_reducible apply go_add); rfl; rfl; rfl; omega)))
           | ((with_reducible (show evOps _ _ _ _ _ _)); first
             | (with_reducible apply go_nil))
           | ((with_reducible (show evG _ _ _ _ _)); first
             | (with_reducible apply go_seq)
             | (with_reducible apply go_region)
             | (((with_reducible apply go_cond); rfl) <;> (intro h; simp only [h]; try simp only [decide_eq_true_eq, decide_eq_false_iff_not, Bool.not_eq_true', Bool.not_eq_false', Bool.not_true, Bool.not_false] at h; try exact absurd trivial h))
             | (with_reducible apply go_ret)
             | (with_reducible apply go_skipc))
           | (with_reducible apply go_kseq)
           | (with_reducible apply go_kseq_ret)
           | (with_reducible apply go_kblock)
           | (with_reducible apply go_kblock_ret)
           | ((with_reducible apply end_int); rfl)
    · have h2 : i < l.length := by omega
      exact (idxOf_some h2 h fun j hj => hC j hj (by omega)).symm
    · have h2 : i < l.length := by omega
      refine ⟨by omega, fun j hj hj' => ?_, entails_eq (k := 0) (ns := []) (ks := [8, 7, 0, 1]) [] rfl (by simp) (e8 _)⟩
      rcases Nat.lt_succ_iff_lt_or_eq.1 hj with h' | rfl
      · exact hC j h' hj'
      · exact h
  · refine (idxOf_none fun x hx => ?_).symm
    obtain ⟨j, hj, rfl⟩ := List.mem_iff_getElem.1 hx
    exact hC j (by omega) hj


theorem c154 (l : List Sample) (hl : l.length < 1000000000000) (g : FuncId) (ys : List D) (hst : Stab ys) (hpu : pureL ys = true) (p : Sample → Bool) (hf : ∀ x ∈ l, Contract Tryz.prog g (.agg (encSample x) :: ys) (.ret (.bool (p x)))) :
    Contract Tryz.prog 58 [.sl (l.map encSample), .clo (.func g) [] ys] (.ret (.bool (l.any p))) := by
  refine contract_of mix Tryz.func58 rfl rfl (by rw [Tryz.ntmps58]; exact Nat.le_of_ble_eq_true rfl) ?_; rw [Tryz.results58, Tryz.ntmps58]; simp only [argsE, Nat.reduceAdd]
  repeat' first
           | (with_reducible apply go_op)
           | (with_reducible apply go_next)
           | ((with_reducible (show evOp _ _ _ _ _ _)); first
             | ((with_reducible (show evOp _ (.move _) _ _ _ _)) ; first | ((with_reducible apply go_mv_bool); rfl; rfl) | ((with_reducible apply go_mv_sl); rfl; rfl) | ((with_reducible apply go_mv_clo); rfl; rfl))
             | ((with_reducible apply go_as)))
           | ((with_reducible (show evOps _ _ _ _ _ _)); first
             | (with_reducible apply go_nil))
           | ((with_reducible (show evG _ _ _ _ _)); first
             | (with_reducible apply go_seq)
             | (with_reducible apply go_region))
           | (with_reducible apply go_kseq)
  refine go_fn_int (args' := [.sl (l.map encSample), .clo (.func g) [] ys]) ?_ (c182 l hl g ys hst hpu p hf) rfl ?_
  · have e := hst (lkH []) 45
    simp only [List.map_cons, List.map_nil, evalD, lkE, purL, pur, Option.bind_some, Option.map_some, Nat.reduceEqDiff, if_true, if_false, e]
  repeat' first
           | (with_reducible apply go_op)
           | (with_reducible apply go_next)
           | ((with_reducible (show evOp _ _ _ _ _ _)); first
             | (((with_reducible apply go_mv_bool); rfl; rfl))
             | ((with_reducible apply go_as))
             | (((with_reducible apply go_cmp); rfl; rfl; rfl; rfl)))
           | ((with_reducible (show evOps _ _ _ _ _ _)); first
             | (with_reducible apply go_nil))
           | ((with_reducible (show evG _ _ _ _ _)); first
             | (with_reducible apply go_ret))
           | (with_reducible apply go_kseq)
           | ((with_reducible apply end_bool); rfl)
  exact idxOf_ge



theorem c155 (t s : Sample) : Contract Tryz.prog 59 [.agg (encSample t), .ptr (encSample s)] (.ret (.bool (decide (t.name = s.name)))) := by
  refine contract_of mix Tryz.func59 rfl rfl (by rw [Tryz.ntmps59]; exact Nat.le_of_ble_eq_true rfl) ?_; rw [Tryz.results59, Tryz.ntmps59]; simp only [argsE, Nat.reduceAdd]
  repeat' first
           | (with_reducible apply go_op)
           | (with_reducible apply go_next)
           | ((with_reducible (show evOp _ _ _ _ _ _)); first
             | (((with_reducible apply go_mv_bool); rfl; rfl))
             | ((with_reducible apply go_as))
             | ((with_reducible (show evOp _ (.load _ _) _ _ _ _)) ; first | ((with_reducible apply go_load); rfl; rfl; rfl) | ((with_reducible apply go_load_own); rfl; rfl; rfl; rfl))
             | ((with_reducible (show evOp _ (.fieldAddr _ _ _) _ _ _ _)) ; first | ((with_reducible apply go_fieldAddr); rfl; rfl) | ((with_reducible apply go_fieldAddr_own); rfl; rfl; rfl))
             | (((with_reducible apply go_bin); rfl; rfl))
             | (((with_reducible apply go_bx_agg); rfl; rfl; (exact Nat.le_of_ble_eq_true rfl); rfl; rfl)))
           | ((with_reducible (show evOps _ _ _ _ _ _)); first
             | (with_reducible apply go_nil))
           | ((with_reducible (show evG _ _ _ _ _)); first
             | (with_reducible apply go_seq)
             | (with_reducible apply go_region)
             | (with_reducible apply go_ret))
           | (with_reducible apply go_kseq)
           | ((with_reducible apply end_bool); rfl)
           | (with_reducible rfl)

/-- The error of a sample's numbers. -/
def smpE (s : Sample) : Int := if ¬ (ptOK ⟨s.x, s.y⟩ = true ∧ lvOK s.top = true ∧ lvOK s.bottom = true ∧ 0 ≤ s.value ∧ s.value ≤ 1000000000) then 2 else if s.top ≤ s.bottom then 9 else 0
theorem c156 (s : Sample) : Contract Tryz.prog 60 [.agg (encSample s)] (.ret (.int .i64 (smpE s))) := by
  refine contract_of mix Tryz.func60 rfl rfl (by rw [Tryz.ntmps60]; exact Nat.le_of_ble_eq_true rfl) ?_; rw [Tryz.results60, Tryz.ntmps60]; simp only [argsE, Nat.reduceAdd]
  repeat' first
           | (with_reducible apply go_op)
           | (with_reducible apply go_next)
           | ((with_reducible (show evOp _ _ _ _ _ _)); first
             | ((with_reducible (show evOp _ (.move _) _ _ _ _)) ; first | ((with_reducible apply go_mv_int); rfl; rfl) | ((with_reducible apply go_mv_bool); rfl; rfl))
             | ((with_reducible apply go_as))
             | (((with_reducible apply go_load_own); rfl; rfl; rfl; rfl))
             | (((with_reducible apply go_fieldAddr_own); rfl; rfl; rfl))
             | (((with_reducible apply go_cmp); rfl; rfl; rfl; rfl))
             | ((with_reducible (show evOp _ (.call _) _ _ _ _)) ; first | ((with_reducible apply go_fn_bool); rfl; (exact c142 ⟨s.x, s.y⟩); rfl) | ((with_reducible apply go_fn_bool); rfl; (exact c114 _); rfl) | ((with_reducible apply go_fn_bool); rfl; (exact c108 _ _ _); rfl))
             | (((with_reducible apply go_not); rfl; rfl))
             | (((with_reducible apply go_pick); rfl; rfl; rfl))
             | (((with_reducible apply go_bd2_int); rfl; rfl; rfl; rfl))
             | (((with_reducible apply go_bx_agg); rfl; rfl; (exact Nat.le_of_ble_eq_true rfl); rfl; rfl)))
           | ((with_reducible (show evOps _ _ _ _ _ _)); first
             | (with_reducible apply go_nil)
             | ((with_reducible apply go_run); rfl; rfl)
             | ((with_reducible apply go_pass); rfl; rfl; rfl)
             | (((with_reducible apply go_guard); rfl) <;> (intro h; simp only [h, Bool.not_true, Bool.not_false]; (try with_reducible (refine ⟨rfl, ?_⟩)); try simp only [decide_eq_true_eq, decide_eq_false_iff_not, Bool.not_eq_true', Bool.not_eq_false', Bool.not_true, Bool.not_false] at h; try exact absurd trivial h)))
           | ((with_reducible (show evG _ _ _ _ _)); first
             | (with_reducible apply go_seq)
             | (with_reducible apply go_region)
             | ((with_reducible apply go_cond_t); rfl; rfl)
             | (((with_reducible apply go_cond); rfl) <;> (intro h; simp only [h]; try simp only [decide_eq_true_eq, decide_eq_false_iff_not, Bool.not_eq_true', Bool.not_eq_false', Bool.not_true, Bool.not_false] at h; try exact absurd trivial h))
             | (with_reducible apply go_ret)
             | (with_reducible apply go_skipc))
           | (with_reducible apply go_kseq)
           | (with_reducible apply go_kseq_ret)
           | ((with_reducible apply end_int); rfl)
  all_goals (unfold smpE; (repeat' split) <;> first | rfl | (exfalso; simp_all; done) | (exfalso; omega))

def stepS (l : List Sample) (i : Nat) : Int := match l[i]? with
  | none => 0
  | some s => if ¬ (nameOK s.name = true ∧ nameOK s.sub = true) then 4 else if ((l.take i).any fun y => decide (y.name = s.name)) = true then 5 else smpE s
theorem stepS_at {l : List Sample} {i : Nat} (h : i < l.length) : stepS l i = if ¬ (nameOK l[i].name = true ∧ nameOK l[i].sub = true) then 4 else if ((l.take i).any fun y => decide (y.name = l[i].name)) = true then 5 else smpE l[i] := by
  simp only [stepS, List.getElem?_eq_getElem h]
/-- The error of samples. -/
def samplesE (l : List Sample) : Int := if 60 < l.length then 8 else firstE l.length (stepS l)
theorem smp_at {l : List Sample} {i : Nat} {e : Int} (hi : i < l.length) (hC : ∀ j, j < i → stepS l j = 0) (h : stepS l i = e) (he : e ≠ 0) : e = firstE l.length (stepS l) := by
  subst h
  exact (firstE_at hi hC he).symm
theorem smp_step {l : List Sample} {i : Nat} (hC : ∀ j, j < i → stepS l j = 0) (h : stepS l i = 0) : ∀ j, j < i + 1 → stepS l j = 0 := fun j hj => by
  rcases Nat.lt_succ_iff_lt_or_eq.1 hj with h' | rfl
  · exact hC j h'
  · exact h

theorem c112 (l : List Sample) (hl : l.length < 1000000000000) : Contract Tryz.prog 22 [.sl (l.map encSample)] (.ret (.int .i64 (samplesE l))) := by
  by_cases hn : 60 < l.length
  · rw [show samplesE l = 8 from if_pos hn]
    refine contract_of mix Tryz.func22 rfl rfl (by rw [Tryz.ntmps22]; exact Nat.le_of_ble_eq_true rfl) ?_; rw [Tryz.results22, Tryz.ntmps22]; simp only [argsE, Nat.reduceAdd]
    repeat' first
           | (with_reducible apply go_op)
           | (with_reducible apply go_next)
           | ((with_reducible (show evOp _ _ _ _ _ _)); first
             | ((with_reducible (show evOp _ (.move _) _ _ _ _)) ; first | ((with_reducible apply go_mv_int); rfl; rfl) | ((with_reducible apply go_mv_sl); rfl; rfl))
             | ((with_reducible apply go_as))
             | (((with_reducible apply go_cmp); rfl; rfl; rfl; rfl))
             | (((with_reducible apply go_len); rfl; rfl)))
           | ((with_reducible (show evOps _ _ _ _ _ _)); first
             | (with_reducible apply go_nil))
           | ((with_reducible (show evG _ _ _ _ _)); first
             | (with_reducible apply go_seq)
             | (with_reducible apply go_region)
             | (((with_reducible apply go_cond); rfl) <;> (intro h; simp only [h]; try simp only [decide_eq_true_eq, decide_eq_false_iff_not, Bool.not_eq_true', Bool.not_eq_false', Bool.not_true, Bool.not_false] at h; try exact absurd trivial h))
             | (with_reducible apply go_ret)
             | (with_reducible apply go_skipc)
             | (with_reducible apply go_block))
           | (with_reducible apply go_kseq)
           | (with_reducible apply go_kseq_ret)
           | ((with_reducible apply end_int); rfl)
           | (with_reducible rfl)
    all_goals (exfalso; omega)
  · rw [show samplesE l = firstE l.length (stepS l) from if_neg hn]
    refine contract_of mix Tryz.func22 rfl rfl (by rw [Tryz.ntmps22]; exact Nat.le_of_ble_eq_true rfl) ?_; rw [Tryz.results22, Tryz.ntmps22]; simp only [argsE, Nat.reduceAdd]
    repeat' first
           | (with_reducible apply go_op)
           | (with_reducible apply go_next)
           | ((with_reducible (show evOp _ _ _ _ _ _)); first
             | ((with_reducible (show evOp _ (.move _) _ _ _ _)) ; first | ((with_reducible apply go_mv_int); rfl; rfl) | ((with_reducible apply go_mv_sl); rfl; rfl))
             | ((with_reducible apply go_as))
             | (((with_reducible apply go_cmp); rfl; rfl; rfl; rfl))
             | (((with_reducible apply go_len); rfl; rfl)))
           | ((with_reducible (show evOps _ _ _ _ _ _)); first
             | (with_reducible apply go_nil))
           | ((with_reducible (show evG _ _ _ _ _)); first
             | (with_reducible apply go_seq)
             | (with_reducible apply go_region)
             | (((with_reducible apply go_cond); rfl) <;> (intro h; simp only [h]; try simp only [decide_eq_true_eq, decide_eq_false_iff_not, Bool.not_eq_true', Bool.not_eq_false', Bool.not_true, Bool.not_false] at h; try exact absurd trivial h))
             | (with_reducible apply go_ret)
             | (with_reducible apply go_skipc)
             | (with_reducible apply go_block))
           | (with_reducible apply go_kseq)
           | (with_reducible apply go_kseq_ret)
           | ((with_reducible apply end_int); rfl)
    all_goals try (exfalso; omega)
    refine go_count l.length (fun i => ⟨[(11, .int .i64 i), (10, .int .i64 l.length), (9, .sl (l.map encSample)), (0, .sl (l.map encSample))], [], 0, 37⟩) (fun i => ∀ j, j < i → stepS l j = 0) (entails_eq (k := 0) (ns := []) (ks := [11, 10, 9, 0]) [] rfl (by simp) rfl) (fun j hj => absurd hj (by omega)) ?_
    intro i hi hC
    by_cases hlt : i < l.length
    · have hs := stepS_at hlt
      repeat' first
           | (with_reducible apply go_op)
           | (with_reducible apply go_next)
           | ((with_reducible (show evOp _ _ _ _ _ _)); first
             | ((with_reducible (show evOp _ (.move _) _ _ _ _)) ; first | ((with_reducible apply go_mv_int); rfl; rfl) | ((with_reducible apply go_mv_bool); rfl; rfl) | ((with_reducible apply go_mv_sl); rfl; rfl))
             | ((with_reducible apply go_as))
             | ((with_reducible (show evOp _ (.load _ _) _ _ _ _)) ; first | ((with_reducible apply go_ld_ptr); rfl; rfl; rfl) | ((with_reducible apply go_load_own); rfl; rfl; rfl; rfl))
             | (((with_reducible apply go_fieldAddr_own); rfl; rfl; rfl))
             | (((with_reducible apply go_index_nat); rfl; rfl; (with_reducible rfl); (intro; rfl); rfl; omega; (intro hlt)))
             | (((with_reducible apply go_cmp); rfl; rfl; rfl; rfl))
             | (((with_reducible apply go_fn_bool); rfl; (exact c137 _); rfl))
             | (((with_reducible apply go_st_agg); rfl; rfl; rfl; rfl; rfl; rfl; rfl))
             | (((with_reducible apply go_take_sl); rfl; rfl; (intro; rfl); rfl; omega))
             | (((with_reducible apply go_not); rfl; rfl))
             | (((with_reducible apply go_pick); rfl; rfl; rfl))
             | (((with_reducible apply go_alloc); rfl; rfl; rfl))
             | (((with_reducible apply go_fn1); rfl; rfl)))
           | ((with_reducible (show evOps _ _ _ _ _ _)); first
             | (with_reducible apply go_nil)
             | ((with_reducible apply go_run); rfl; rfl)
             | ((with_reducible apply go_pass); rfl; rfl; rfl)
             | (((with_reducible apply go_guard); rfl) <;> (intro h; simp only [h, Bool.not_true, Bool.not_false]; (try with_reducible (refine ⟨rfl, ?_⟩)); try simp only [decide_eq_true_eq, decide_eq_false_iff_not, Bool.not_eq_true', Bool.not_eq_false', Bool.not_true, Bool.not_false] at h; try exact absurd trivial h)))
           | ((with_reducible (show evG _ _ _ _ _)); first
             | (with_reducible apply go_seq)
             | (with_reducible apply go_region)
             | ((with_reducible apply go_cond_t); rfl; rfl)
             | (((with_reducible apply go_cond); rfl) <;> (intro h; simp only [h]; try simp only [decide_eq_true_eq, decide_eq_false_iff_not, Bool.not_eq_true', Bool.not_eq_false', Bool.not_true, Bool.not_false] at h; try exact absurd trivial h))
             | (with_reducible apply go_ret)
             | (with_reducible apply go_skipc)
             | (with_reducible apply go_block)
             | (with_reducible apply go_exit))
           | (with_reducible apply go_kseq)
           | (with_reducible apply go_kseq_ret)
           | (with_reducible apply go_kblock_ret)
           | (with_reducible apply go_kblock_exit)
           | (with_reducible apply go_kseq_exit)
           | ((with_reducible apply end_int); rfl)
      all_goals try exact absurd hlt (by omega)
      · exact smp_at hlt hC (by rw [hs, if_pos (by simp [*])]) (by decide)
      · have hi60 : i < 1000000000000 := by omega
        refine go_fn_bool (args' := [.sl ((l.take i).map encSample), .clo (.func 59) [] [.ptr (encSample l[i])]]) rfl (c154 (l.take i) (by simp; omega) 59 [.ptr (encSample l[i])] (fun _ _ => rfl) rfl (fun y => decide (y.name = l[i].name)) fun y _ => c155 y l[i]) rfl ?_
        have hnm : ¬ ¬ (nameOK l[i].name = true ∧ nameOK l[i].sub = true) := fun h => h ⟨by assumption, by assumption⟩
        repeat' first
           | (with_reducible apply go_op)
           | (with_reducible apply go_next)
           | ((with_reducible (show evOp _ _ _ _ _ _)); first
             | (((with_reducible apply go_mv_int); rfl; rfl))
             | ((with_reducible apply go_as))
             | (((with_reducible apply go_ld_agg); rfl; rfl; rfl; rfl))
             | ((with_reducible (show evOp _ (.binOp _ _ _ _ _) _ _ _ _)) ; first | ((with_reducible apply go_cmp); rfl; rfl; rfl; rfl) | ((with_reducible apply go_add); rfl; rfl; rfl; omega))
             | (((with_reducible apply go_fn_int); rfl; (exact c156 _); rfl)))
           | ((with_reducible (show evOps _ _ _ _ _ _)); first
             | (with_reducible apply go_nil))
           | ((with_reducible (show evG _ _ _ _ _)); first
             | (with_reducible apply go_seq)
             | (with_reducible apply go_region)
             | (((with_reducible apply go_cond); rfl) <;> (intro h; simp only [h]; try simp only [decide_eq_true_eq, decide_eq_false_iff_not, Bool.not_eq_true', Bool.not_eq_false', Bool.not_true, Bool.not_false] at h; try exact absurd trivial h))
             | (with_reducible apply go_ret)
             | (with_reducible apply go_skipc))
           | (with_reducible apply go_kseq)
           | (with_reducible apply go_kseq_ret)
           | (with_reducible apply go_kblock)
           | (with_reducible apply go_kblock_ret)
           | ((with_reducible apply end_int); rfl)
        · exact smp_at hlt hC (by rw [hs, if_neg hnm, if_pos (by assumption)]) (by decide)
        · exact smp_at hlt hC (by rw [hs, if_neg hnm, if_neg (by simp [*])]) (by assumption)
        · exact ⟨hlt, smp_step hC (by rw [hs, if_neg hnm, if_neg (by simp [*])]; assumption), entails_eq (k := 0) (ns := []) (ks := [11, 10, 9, 0]) [] rfl (by simp) rfl⟩
      · exact smp_at hlt hC (by rw [hs, if_pos (by simp [*])]) (by decide)
    · repeat' first
           | (with_reducible apply go_op)
           | (with_reducible apply go_next)
           | ((with_reducible (show evOp _ _ _ _ _ _)); first
             | (((with_reducible apply go_mv_int); rfl; rfl))
             | ((with_reducible apply go_as))
             | ((with_reducible (show evOp _ (.load _ _) _ _ _ _)) ; first | ((with_reducible apply go_ld_ptr); rfl; rfl; rfl) | ((with_reducible apply go_load_own); rfl; rfl; rfl; rfl))
             | (((with_reducible apply go_fieldAddr_own); rfl; rfl; rfl))
             | (((with_reducible apply go_index_nat); rfl; rfl; (with_reducible rfl); (intro; rfl); rfl; omega; (intro hlt)))
             | (((with_reducible apply go_cmp); rfl; rfl; rfl; rfl))
             | (((with_reducible apply go_st_agg); rfl; rfl; rfl; rfl; rfl; rfl; rfl))
             | (((with_reducible apply go_alloc); rfl; rfl; rfl)))
           | ((with_reducible (show evOps _ _ _ _ _ _)); first
             | (with_reducible apply go_nil))
           | ((with_reducible (show evG _ _ _ _ _)); first
             | (with_reducible apply go_seq)
             | (with_reducible apply go_region)
             | (((with_reducible apply go_cond); rfl) <;> (intro h; simp only [h]; try simp only [decide_eq_true_eq, decide_eq_false_iff_not, Bool.not_eq_true', Bool.not_eq_false', Bool.not_true, Bool.not_false] at h; try exact absurd trivial h))
             | (with_reducible apply go_ret)
             | (with_reducible apply go_skipc)
             | (with_reducible apply go_block)
             | (with_reducible apply go_exit))
           | (with_reducible apply go_kseq)
           | (with_reducible apply go_kblock_exit)
           | (with_reducible apply go_kseq_exit)
           | ((with_reducible apply end_int); rfl)
      all_goals first
        | exact absurd hlt (by omega)
        | exact (firstE_zero fun j hj => hC j (by omega)).symm
        | trace_state

/-- Is a name among the first samples? -/
theorem c116 (l : List Sample) (hl : l.length < 1000000000000) : Contract Tryz.prog 23 [.sl (l.map encSample)] (.ret (.int .i64 (samplesE l))) := by
  by_cases hn : 60 < l.length
  · rw [show samplesE l = 8 from if_pos hn]
    refine contract_of mix Tryz.func23 rfl rfl (by rw [Tryz.ntmps23]; exact Nat.le_of_ble_eq_true rfl) ?_; rw [Tryz.results23, Tryz.ntmps23]; simp only [argsE, Nat.reduceAdd]
    repeat' first
           | (with_reducible apply go_op)
           | (with_reducible apply go_next)
           | ((with_reducible (show evOp _ _ _ _ _ _)); first
             | ((with_reducible (show evOp _ (.move _) _ _ _ _)) ; first | ((with_reducible apply go_mv_int); rfl; rfl) | ((with_reducible apply go_mv_sl); rfl; rfl))
             | ((with_reducible apply go_as))
             | (((with_reducible apply go_cmp); rfl; rfl; rfl; rfl))
             | (((with_reducible apply go_len); rfl; rfl)))
           | ((with_reducible (show evOps _ _ _ _ _ _)); first
             | (with_reducible apply go_nil))
           | ((with_reducible (show evG _ _ _ _ _)); first
             | (with_reducible apply go_seq)
             | (with_reducible apply go_region)
             | (((with_reducible apply go_cond); rfl) <;> (intro h; simp only [h]; try simp only [decide_eq_true_eq, decide_eq_false_iff_not, Bool.not_eq_true', Bool.not_eq_false', Bool.not_true, Bool.not_false] at h; try exact absurd trivial h))
             | (with_reducible apply go_ret)
             | (with_reducible apply go_skipc)
             | (with_reducible apply go_block))
           | (with_reducible apply go_kseq)
           | (with_reducible apply go_kseq_ret)
           | ((with_reducible apply end_int); rfl)
           | (with_reducible rfl)
    all_goals (exfalso; omega)
  · rw [show samplesE l = firstE l.length (stepS l) from if_neg hn]
    refine contract_of mix Tryz.func23 rfl rfl (by rw [Tryz.ntmps23]; exact Nat.le_of_ble_eq_true rfl) ?_; rw [Tryz.results23, Tryz.ntmps23]; simp only [argsE, Nat.reduceAdd]
    repeat' first
           | (with_reducible apply go_op)
           | (with_reducible apply go_next)
           | ((with_reducible (show evOp _ _ _ _ _ _)); first
             | ((with_reducible (show evOp _ (.move _) _ _ _ _)) ; first | ((with_reducible apply go_mv_int); rfl; rfl) | ((with_reducible apply go_mv_sl); rfl; rfl))
             | ((with_reducible apply go_as))
             | (((with_reducible apply go_cmp); rfl; rfl; rfl; rfl))
             | (((with_reducible apply go_len); rfl; rfl)))
           | ((with_reducible (show evOps _ _ _ _ _ _)); first
             | (with_reducible apply go_nil))
           | ((with_reducible (show evG _ _ _ _ _)); first
             | (with_reducible apply go_seq)
             | (with_reducible apply go_region)
             | (((with_reducible apply go_cond); rfl) <;> (intro h; simp only [h]; try simp only [decide_eq_true_eq, decide_eq_false_iff_not, Bool.not_eq_true', Bool.not_eq_false', Bool.not_true, Bool.not_false] at h; try exact absurd trivial h))
             | (with_reducible apply go_ret)
             | (with_reducible apply go_skipc)
             | (with_reducible apply go_block))
           | (with_reducible apply go_kseq)
           | (with_reducible apply go_kseq_ret)
           | ((with_reducible apply end_int); rfl)
    all_goals try (exfalso; omega)
    refine go_count l.length (fun i => ⟨[(3, .int .i64 i), (0, .sl (l.map encSample))], [], 0, 72⟩) (fun i => ∀ j, j < i → stepS l j = 0) (entails_eq (k := 0) (ns := []) (ks := [3, 0]) [] rfl (by simp) rfl) (fun j hj => absurd hj (by omega)) ?_
    intro i hi hC
    by_cases hlt : i < l.length
    · have hs := stepS_at hlt
      repeat' first
           | (with_reducible apply go_op)
           | (with_reducible apply go_next)
           | ((with_reducible (show evOp _ _ _ _ _ _)); first
             | ((with_reducible (show evOp _ (.move _) _ _ _ _)) ; first | ((with_reducible apply go_mv_int); rfl; rfl) | ((with_reducible apply go_mv_bool); rfl; rfl) | ((with_reducible apply go_mv_sl); rfl; rfl))
             | ((with_reducible apply go_as))
             | ((with_reducible (show evOp _ (.load _ _) _ _ _ _)) ; first | ((with_reducible apply go_ld_ptr); rfl; rfl; rfl) | ((with_reducible apply go_load_own); rfl; rfl; rfl; rfl))
             | (((with_reducible apply go_fieldAddr_own); rfl; rfl; rfl))
             | (((with_reducible apply go_index_nat); rfl; rfl; (with_reducible rfl); (intro; rfl); rfl; omega; (intro hlt)))
             | (((with_reducible apply go_cmp); rfl; rfl; rfl; rfl))
             | ((with_reducible (show evOp _ (.call _) _ _ _ _)) ; first | ((with_reducible apply go_len); rfl; rfl) | ((with_reducible apply go_fn_bool); rfl; (exact c83 _); rfl))
             | (((with_reducible apply go_st_agg); rfl; rfl; rfl; rfl; rfl; rfl; rfl))
             | (((with_reducible apply go_not); rfl; rfl))
             | (((with_reducible apply go_pick); rfl; rfl; rfl))
             | (((with_reducible apply go_alloc); rfl; rfl; rfl)))
           | ((with_reducible (show evOps _ _ _ _ _ _)); first
             | (with_reducible apply go_nil)
             | ((with_reducible apply go_run); rfl; rfl)
             | ((with_reducible apply go_pass); rfl; rfl; rfl)
             | (((with_reducible apply go_guard); rfl) <;> (intro h; simp only [h, Bool.not_true, Bool.not_false]; (try with_reducible (refine ⟨rfl, ?_⟩)); try simp only [decide_eq_true_eq, decide_eq_false_iff_not, Bool.not_eq_true', Bool.not_eq_false', Bool.not_true, Bool.not_false] at h; try exact absurd trivial h)))
           | ((with_reducible (show evG _ _ _ _ _)); first
             | (with_reducible apply go_seq)
             | (with_reducible apply go_region)
             | ((with_reducible apply go_cond_t); rfl; rfl)
             | (((with_reducible apply go_cond); rfl) <;> (intro h; simp only [h]; try simp only [decide_eq_true_eq, decide_eq_false_iff_not, Bool.not_eq_true', Bool.not_eq_false', Bool.not_true, Bool.not_false] at h; try exact absurd trivial h))
             | (with_reducible apply go_ret)
             | (with_reducible apply go_skipc)
             | (with_reducible apply go_block)
             | (with_reducible apply go_exit))
           | (with_reducible apply go_kseq)
           | (with_reducible apply go_kseq_ret)
           | (with_reducible apply go_kblock_ret)
           | (with_reducible apply go_kblock_exit)
           | (with_reducible apply go_kseq_exit)
           | ((with_reducible apply end_int); rfl)
      all_goals try exact absurd hlt (by omega)
      · exact smp_at hlt hC (by rw [hs, if_pos (by simp [*])]) (by decide)
      · have hnm : ¬ ¬ (nameOK l[i].name = true ∧ nameOK l[i].sub = true) := fun h => h ⟨by assumption, by assumption⟩
        refine go_count i (fun k => ⟨[(5, .int .i64 k), (3, .int .i64 i), (0, .sl (l.map encSample)), (4, .op 0 0 0)], [(0, ⟨7, true, [encSample l[i]]⟩)], 32, 72⟩) (fun k => ∀ j (hj : j < k) (hj' : j < l.length), l[j].name ≠ l[i].name) (entails_eq (nx := 32) (k := 0) (ns := []) (ks := [5, 3, 0, 4]) [(256, 0)] rfl (by simp) (by kernel_rfl)) (fun j hj => absurd hj (by omega)) ?_
        intro k hk hK
        by_cases hlk : k < i
        · have hkl : k < l.length := by omega
          repeat' first
           | (with_reducible apply go_op)
           | (with_reducible apply go_next)
           | ((with_reducible (show evOp _ _ _ _ _ _)); first
             | ((with_reducible (show evOp _ (.move _) _ _ _ _)) ; first | ((with_reducible apply go_mv_int); rfl; rfl) | ((with_reducible apply go_mv_sl); rfl; rfl))
             | ((with_reducible apply go_as))
             | ((with_reducible (show evOp _ (.load _ _) _ _ _ _)) ; first | ((with_reducible apply go_load); rfl; rfl; rfl) | ((with_reducible apply go_load_own); rfl; rfl; rfl; rfl))
             | ((with_reducible (show evOp _ (.fieldAddr _ _ _) _ _ _ _)) ; first | ((with_reducible apply go_fieldAddr); rfl; rfl) | ((with_reducible apply go_fieldAddr_own); rfl; rfl; rfl))
             | (((with_reducible apply go_index_nat); rfl; rfl; (with_reducible rfl); (intro; rfl); rfl; omega; (intro hlt)))
             | ((with_reducible (show evOp _ (.binOp _ _ _ _ _) _ _ _ _)) ; first | ((with_reducible apply go_cmp); rfl; rfl; rfl; rfl) | ((with_reducible apply go_add); rfl; rfl; rfl; omega) | ((with_reducible apply go_bin); rfl; rfl))
             | (((with_reducible apply go_bd2_int); rfl; rfl; rfl; rfl)))
           | ((with_reducible (show evOps _ _ _ _ _ _)); first
             | (with_reducible apply go_nil)
             | ((with_reducible apply go_pre); rfl)
             | (with_reducible apply go_pre_nil)
             | ((with_reducible apply go_suf); rfl)
             | (with_reducible apply go_suf_nil))
           | ((with_reducible (show evG _ _ _ _ _)); first
             | (with_reducible apply go_seq)
             | (with_reducible apply go_region)
             | (((with_reducible apply go_cond); rfl) <;> (intro h; simp only [h]; try simp only [decide_eq_true_eq, decide_eq_false_iff_not, Bool.not_eq_true', Bool.not_eq_false', Bool.not_true, Bool.not_false] at h; try exact absurd trivial h))
             | ((with_reducible apply go_order); kernel_rfl; rfl)
             | (with_reducible apply go_ret)
             | (with_reducible apply go_skipc)
             | (with_reducible apply go_block)
             | (with_reducible apply go_exit))
           | (with_reducible apply go_kseq)
           | (with_reducible apply go_ksuf)
           | (with_reducible apply go_kseq_ret)
           | (with_reducible apply go_kblock)
           | (with_reducible apply go_kblock_ret)
           | (with_reducible apply go_kblock_exit)
           | (with_reducible apply go_kseq_exit)
           | ((with_reducible apply end_int); rfl)
          all_goals try exact absurd hlk (by omega)
          · refine smp_at (i := i) (by omega) hC (by rw [hs, if_neg hnm, if_pos]; exact List.any_eq_true.2 ⟨l[k], List.mem_iff_getElem.2 ⟨k, by simp; omega, by simp⟩, by simp; assumption⟩) (by decide)
          · refine ⟨hlk, fun j hj hj' => ?_, entails_eq (nx := 32) (k := 0) (ns := []) (ks := [5, 3, 0, 4]) [(0, 0)] rfl (by simp) (by kernel_rfl)⟩
            rcases Nat.lt_succ_iff_lt_or_eq.1 hj with h' | rfl
            · exact hK j h' hj'
            · assumption
        · have e : k = i := by omega
          have hany : ¬ ((l.take i).any fun y => decide (y.name = l[i].name)) = true := fun h => by
            obtain ⟨y, hy, he⟩ := List.any_eq_true.1 h
            obtain ⟨j, hj, rfl⟩ := List.mem_iff_getElem.1 hy
            have hj2 : j < i := by simp at hj; omega
            rw [List.getElem_take] at he
            exact hK j (by omega) (by omega) (by simpa using he)
          rw [if_neg hnm, if_neg hany] at hs
          clear hany
          repeat' first
           | (with_reducible apply go_op)
           | (with_reducible apply go_next)
           | ((with_reducible (show evOp _ _ _ _ _ _)); first
             | ((with_reducible (show evOp _ (.move _) _ _ _ _)) ; first | ((with_reducible apply go_mv_int); rfl; rfl) | ((with_reducible apply go_mv_bool); rfl; rfl) | ((with_reducible apply go_mv_sl); rfl; rfl))
             | ((with_reducible apply go_as))
             | ((with_reducible (show evOp _ (.load _ _) _ _ _ _)) ; first | ((with_reducible apply go_load); rfl; rfl; rfl) | ((with_reducible apply go_load_own); rfl; rfl; rfl; rfl))
             | ((with_reducible (show evOp _ (.fieldAddr _ _ _) _ _ _ _)) ; first | ((with_reducible apply go_fieldAddr); rfl; rfl) | ((with_reducible apply go_fieldAddr_own); rfl; rfl; rfl))
             | (((with_reducible apply go_index_nat); rfl; rfl; (with_reducible rfl); (intro; rfl); rfl; omega; (intro hlt)))
             | ((with_reducible (show evOp _ (.binOp _ _ _ _ _) _ _ _ _)) ; first | ((with_reducible apply go_cmp); rfl; rfl; rfl; rfl) | ((with_reducible apply go_add); rfl; rfl; rfl; omega) | ((with_reducible apply go_bin); rfl; rfl))
             | ((with_reducible (show evOp _ (.call _) _ _ _ _)) ; first | ((with_reducible apply go_fn_bool); rfl; (exact c46 ⟨l[i].x, l[i].y⟩); rfl) | ((with_reducible apply go_fn_bool); rfl; (exact c48 _); rfl) | ((with_reducible apply go_fn_bool); rfl; (exact c38 _ _ _); rfl))
             | (((with_reducible apply go_not); rfl; rfl))
             | (((with_reducible apply go_pick); rfl; rfl; rfl))
             | (((with_reducible apply go_bd2_int); rfl; rfl; rfl; rfl)))
           | ((with_reducible (show evOps _ _ _ _ _ _)); first
             | (with_reducible apply go_nil)
             | ((with_reducible apply go_run); rfl; rfl)
             | ((with_reducible apply go_pass); rfl; rfl; rfl)
             | (((with_reducible apply go_guard); rfl) <;> (intro h; simp only [h, Bool.not_true, Bool.not_false]; (try with_reducible (refine ⟨rfl, ?_⟩)); try simp only [decide_eq_true_eq, decide_eq_false_iff_not, Bool.not_eq_true', Bool.not_eq_false', Bool.not_true, Bool.not_false] at h; try exact absurd trivial h))
             | ((with_reducible apply go_pre); rfl)
             | (with_reducible apply go_pre_nil)
             | ((with_reducible apply go_suf); rfl)
             | (with_reducible apply go_suf_nil))
           | ((with_reducible (show evG _ _ _ _ _)); first
             | (with_reducible apply go_seq)
             | (with_reducible apply go_region)
             | ((with_reducible apply go_cond_t); rfl; rfl)
             | (((with_reducible apply go_cond); rfl) <;> (intro h; simp only [h]; try simp only [decide_eq_true_eq, decide_eq_false_iff_not, Bool.not_eq_true', Bool.not_eq_false', Bool.not_true, Bool.not_false] at h; try exact absurd trivial h))
             | ((with_reducible apply go_order); kernel_rfl; rfl)
             | (with_reducible apply go_ret)
             | (with_reducible apply go_skipc)
             | (with_reducible apply go_block)
             | (with_reducible apply go_exit))
           | (with_reducible apply go_kseq)
           | (with_reducible apply go_ksuf)
           | (with_reducible apply go_kseq_ret)
           | (with_reducible apply go_kblock)
           | (with_reducible apply go_kblock_ret)
           | (with_reducible apply go_kblock_exit)
           | (with_reducible apply go_kseq_exit)
           | ((with_reducible apply end_int); rfl)
          all_goals first
            | exact absurd hlk (by omega)
            | (refine smp_at (i := i) (e := 2) (by omega) hC ?_ (by decide)
               rw [hs]; unfold smpE; rw [if_pos]
               rintro ⟨z1, z2, z3, z4⟩
               first | (exfalso; omega) | (simp_all; done))
            | (refine smp_at (i := i) (e := 9) (by omega) hC ?_ (by decide)
               rw [hs]; unfold smpE
               rw [if_neg (fun z => z ⟨by assumption, by assumption, by assumption, by omega, by omega⟩), if_pos (by assumption)])
            | (refine ⟨by omega, smp_step hC ?_, entails_eq (nx := 0) (k := 0) (ns := []) (ks := [3, 0]) [] rfl (by simp) (by kernel_rfl)⟩
               rw [hs]; unfold smpE
               rw [if_neg (fun z => z ⟨by assumption, by assumption, by assumption, by omega, by omega⟩), if_neg (by assumption)])
            | trace_state
      · exact smp_at hlt hC (by rw [hs, if_pos (by simp [*])]) (by decide)
    · repeat' first
           | (with_reducible apply go_op)
           | (with_reducible apply go_next)
           | ((with_reducible (show evOp _ _ _ _ _ _)); first
             | ((with_reducible (show evOp _ (.move _) _ _ _ _)) ; first | ((with_reducible apply go_mv_int); rfl; rfl) | ((with_reducible apply go_mv_sl); rfl; rfl))
             | ((with_reducible apply go_as))
             | ((with_reducible (show evOp _ (.load _ _) _ _ _ _)) ; first | ((with_reducible apply go_ld_ptr); rfl; rfl; rfl) | ((with_reducible apply go_load_own); rfl; rfl; rfl; rfl))
             | (((with_reducible apply go_fieldAddr_own); rfl; rfl; rfl))
             | (((with_reducible apply go_index_nat); rfl; rfl; (with_reducible rfl); (intro; rfl); rfl; omega; (intro hlt)))
             | (((with_reducible apply go_cmp); rfl; rfl; rfl; rfl))
             | (((with_reducible apply go_len); rfl; rfl))
             | (((with_reducible apply go_st_agg); rfl; rfl; rfl; rfl; rfl; rfl; rfl))
             | (((with_reducible apply go_alloc); rfl; rfl; rfl)))
           | ((with_reducible (show evOps _ _ _ _ _ _)); first
             | (with_reducible apply go_nil))
           | ((with_reducible (show evG _ _ _ _ _)); first
             | (with_reducible apply go_seq)
             | (with_reducible apply go_region)
             | (((with_reducible apply go_cond); rfl) <;> (intro h; simp only [h]; try simp only [decide_eq_true_eq, decide_eq_false_iff_not, Bool.not_eq_true', Bool.not_eq_false', Bool.not_true, Bool.not_false] at h; try exact absurd trivial h))
             | (with_reducible apply go_ret)
             | (with_reducible apply go_skipc)
             | (with_reducible apply go_block)
             | (with_reducible apply go_exit))
           | (with_reducible apply go_kseq)
           | (with_reducible apply go_kblock_exit)
           | (with_reducible apply go_kseq_exit)
           | ((with_reducible apply end_int); rfl)
      all_goals first
        | exact absurd hlt (by omega)
        | exact (firstE_zero fun j hj => hC j (by omega)).symm
        | trace_state
end Go.Pv.Soil

open Go Go.Proofs Go.Pv
set_option maxHeartbeats 4000000
set_option maxRecDepth 100000
set_option linter.unusedSimpArgs false
set_option linter.unusedVariables false
namespace Go.Pv.Soil

structure Standard where
  sub : ByteArray
  limits : List Int
def encStd (s : Standard) : List D := [.str s.sub, .sl (s.limits.map encInt)]
def shortS (s : Sample) : Bool := decide (s.name.size ≤ 50 ∧ s.sub.size ≤ 50)
def shortT (s : Standard) : Bool := decide (s.sub.size ≤ 50 ∧ s.limits.length ≤ 8)
def fewB (l : List Sample) (s : List Standard) : Bool := decide (l.length ≤ 65 ∧ s.length ≤ 10) && (l.all shortS && s.all shortT)
theorem all_false {α : Type} {p : α → Bool} {l : List α} {i : Nat} (h : i < l.length) (hp : p l[i] = false) : l.all p = false := by
  refine Bool.eq_false_iff.2 fun hh => ?_
  have := List.all_eq_true.1 hh l[i] (List.getElem_mem h)
  rw [hp] at this
  cases this
theorem all_true {α : Type} {p : α → Bool} {l : List α} (h : ∀ j (hj : j < l.length), p l[j] = true) : l.all p = true := List.all_eq_true.2 fun x hx => by
  obtain ⟨j, hj, rfl⟩ := List.mem_iff_getElem.1 hx
  exact h j hj

theorem c63 (l : List Sample) (s : List Standard) (hl : l.length ≤ 9223372036854775807) (hs : s.length ≤ 9223372036854775807) (hls : ∀ x ∈ s, x.limits.length ≤ 9223372036854775807) : Contract Tryz.prog 19 [.sl (l.map encSample), .sl (s.map encStd)] (.ret (.bool (fewB l s))) := by
  by_cases hn : l.length ≤ 65 ∧ s.length ≤ 10
  · have e0 : fewB l s = (l.all shortS && s.all shortT) := by unfold fewB; rw [decide_eq_true hn, Bool.true_and]
    rw [e0]
    refine contract_of mix Tryz.func19 rfl rfl (by rw [Tryz.ntmps19]; exact Nat.le_of_ble_eq_true rfl) ?_; rw [Tryz.results19, Tryz.ntmps19]; simp only [argsE, Nat.reduceAdd]
    repeat' first
           | (with_reducible apply go_op)
           | (with_reducible apply go_next)
           | ((with_reducible (show evOp _ _ _ _ _ _)); first
             | ((with_reducible (show evOp _ (.move _) _ _ _ _)) ; first | ((with_reducible apply go_mv_int); rfl; rfl) | ((with_reducible apply go_mv_bool); rfl; rfl) | ((with_reducible apply go_mv_sl); rfl; rfl))
             | ((with_reducible apply go_as))
             | (((with_reducible apply go_cmp); rfl; rfl; rfl; rfl))
             | (((with_reducible apply go_len); rfl; rfl))
             | (((with_reducible apply go_pick); rfl; rfl; rfl)))
           | ((with_reducible (show evOps _ _ _ _ _ _)); first
             | (with_reducible apply go_nil)
             | ((with_reducible apply go_run); rfl; rfl)
             | ((with_reducible apply go_pass); rfl; rfl; rfl)
             | (((with_reducible apply go_guard); rfl) <;> (intro h; simp only [h, Bool.not_true, Bool.not_false]; (try with_reducible (refine ⟨rfl, ?_⟩)); try simp only [decide_eq_true_eq, decide_eq_false_iff_not, Bool.not_eq_true', Bool.not_eq_false', Bool.not_true, Bool.not_false] at h; try exact absurd trivial h)))
           | ((with_reducible (show evG _ _ _ _ _)); first
             | (with_reducible apply go_seq)
             | (with_reducible apply go_region)
             | ((with_reducible apply go_cond_t); rfl; rfl)
             | (((with_reducible apply go_cond); rfl) <;> (intro h; simp only [h]; try simp only [decide_eq_true_eq, decide_eq_false_iff_not, Bool.not_eq_true', Bool.not_eq_false', Bool.not_true, Bool.not_false] at h; try exact absurd trivial h))
             | (with_reducible apply go_ret)
             | (with_reducible apply go_skipc)
             | (with_reducible apply go_block))
           | (with_reducible apply go_kseq)
           | (with_reducible apply go_kseq_ret)
           | ((with_reducible apply end_bool); rfl)
    all_goals try (exfalso; omega)
    refine go_count l.length (fun i => ⟨[(5, .int .i64 i), (0, .sl (l.map encSample)), (1, .sl (s.map encStd))], [], 0, 59⟩) (fun i => ∀ j (hj : j < i) (hj' : j < l.length), shortS l[j] = true) (entails_eq (k := 0) (ns := []) (ks := [5, 0, 1]) [] rfl (by simp) rfl) (fun j hj => absurd hj (by omega)) ?_
    intro i hi hC
    by_cases hlt : i < l.length
    · repeat' first
           | (with_reducible apply go_op)
           | (with_reducible apply go_next)
           | ((with_reducible (show evOp _ _ _ _ _ _)); first
             | ((with_reducible (show evOp _ (.move _) _ _ _ _)) ; first | ((with_reducible apply go_mv_int); rfl; rfl) | ((with_reducible apply go_mv_bool); rfl; rfl) | ((with_reducible apply go_mv_sl); rfl; rfl))
             | ((with_reducible apply go_as))
             | (((with_reducible apply go_load); rfl; rfl; rfl))
             | (((with_reducible apply go_fieldAddr); rfl; rfl))
             | (((with_reducible apply go_index_nat); rfl; rfl; (with_reducible rfl); (intro; rfl); rfl; omega; (intro hlt)))
             | ((with_reducible (show evOp _ (.binOp _ _ _ _ _) _ _ _ _)) ; first | ((with_reducible apply go_cmp); rfl; rfl; rfl; rfl) | ((with_reducible apply go_add); rfl; rfl; rfl; omega))
             | ((with_reducible (show evOp _ (.call _) _ _ _ _)) ; first | ((with_reducible apply go_len); rfl; rfl) | ((with_reducible apply go_len_str); rfl; rfl))
             | (((with_reducible apply go_pick); rfl; rfl; rfl)))
           | ((with_reducible (show evOps _ _ _ _ _ _)); first
             | (with_reducible apply go_nil)
             | ((with_reducible apply go_run); rfl; rfl)
             | ((with_reducible apply go_pass); rfl; rfl; rfl)
             | (((with_reducible apply go_guard); rfl) <;> (intro h; simp only [h, Bool.not_true, Bool.not_false]; (try with_reducible (refine ⟨rfl, ?_⟩)); try simp only [decide_eq_true_eq, decide_eq_false_iff_not, Bool.not_eq_true', Bool.not_eq_false', Bool.not_true, Bool.not_false] at h; try exact absurd trivial h)))
           | ((with_reducible (show evG _ _ _ _ _)); first
             | (with_reducible apply go_seq)
             | (with_reducible apply go_region)
             | ((with_reducible apply go_cond_t); rfl; rfl)
             | (((with_reducible apply go_cond); rfl) <;> (intro h; simp only [h]; try simp only [decide_eq_true_eq, decide_eq_false_iff_not, Bool.not_eq_true', Bool.not_eq_false', Bool.not_true, Bool.not_false] at h; try exact absurd trivial h))
             | (with_reducible apply go_ret)
             | (with_reducible apply go_skipc)
             | (with_reducible apply go_block)
             | (with_reducible apply go_exit))
           | (with_reducible apply go_kseq)
           | (with_reducible apply go_kseq_ret)
           | (with_reducible apply go_kblock)
           | (with_reducible apply go_kblock_ret)
           | (with_reducible apply go_kblock_exit)
           | (with_reducible apply go_kseq_exit)
           | ((with_reducible apply end_bool); rfl)
      all_goals first
        | exact absurd hlt (by omega)
        | (rw [all_false hlt (p := shortS) (decide_eq_false (by omega))]; rfl)
        | (refine ⟨‹i < l.length›, fun j hj hj' => ?_, entails_eq (k := 0) (ns := []) (ks := [5, 0, 1]) [] rfl (by simp) rfl⟩
           rcases Nat.lt_succ_iff_lt_or_eq.1 hj with h' | rfl
           · exact hC j h' hj'
           · exact decide_eq_true (by omega))
        | trace_state
    · rw [all_true (p := shortS) fun j hj => hC j (by omega) hj, Bool.true_and]
      repeat' first
           | (with_reducible apply go_op)
           | (with_reducible apply go_next)
           | ((with_reducible (show evOp _ _ _ _ _ _)); first
             | ((with_reducible (show evOp _ (.move _) _ _ _ _)) ; first | ((with_reducible apply go_mv_int); rfl; rfl) | ((with_reducible apply go_mv_bool); rfl; rfl) | ((with_reducible apply go_mv_sl); rfl; rfl))
             | ((with_reducible apply go_as))
             | (((with_reducible apply go_load); rfl; rfl; rfl))
             | (((with_reducible apply go_fieldAddr); rfl; rfl))
             | (((with_reducible apply go_index_nat); rfl; rfl; (with_reducible rfl); (intro; rfl); rfl; omega; (intro hlt)))
             | ((with_reducible (show evOp _ (.binOp _ _ _ _ _) _ _ _ _)) ; first | ((with_reducible apply go_cmp); rfl; rfl; rfl; rfl) | ((with_reducible apply go_add); rfl; rfl; rfl; omega))
             | ((with_reducible (show evOp _ (.call _) _ _ _ _)) ; first | ((with_reducible apply go_len); rfl; rfl) | ((with_reducible apply go_len_str); rfl; rfl))
             | (((with_reducible apply go_pick); rfl; rfl; rfl)))
           | ((with_reducible (show evOps _ _ _ _ _ _)); first
             | (with_reducible apply go_nil)
             | ((with_reducible apply go_run); rfl; rfl)
             | ((with_reducible apply go_pass); rfl; rfl; rfl)
             | (((with_reducible apply go_guard); rfl) <;> (intro h; simp only [h, Bool.not_true, Bool.not_false]; (try with_reducible (refine ⟨rfl, ?_⟩)); try simp only [decide_eq_true_eq, decide_eq_false_iff_not, Bool.not_eq_true', Bool.not_eq_false', Bool.not_true, Bool.not_false] at h; try exact absurd trivial h)))
           | ((with_reducible (show evG _ _ _ _ _)); first
             | (with_reducible apply go_seq)
             | (with_reducible apply go_region)
             | ((with_reducible apply go_cond_t); rfl; rfl)
             | (((with_reducible apply go_cond); rfl) <;> (intro h; simp only [h]; try simp only [decide_eq_true_eq, decide_eq_false_iff_not, Bool.not_eq_true', Bool.not_eq_false', Bool.not_true, Bool.not_false] at h; try exact absurd trivial h))
             | (with_reducible apply go_ret)
             | (with_reducible apply go_skipc)
             | (with_reducible apply go_block)
             | (with_reducible apply go_exit))
           | (with_reducible apply go_kseq)
           | (with_reducible apply go_kseq_ret)
           | (with_reducible apply go_kblock)
           | (with_reducible apply go_kblock_ret)
           | (with_reducible apply go_kblock_exit)
           | (with_reducible apply go_kseq_exit)
           | ((with_reducible apply end_bool); rfl)
      all_goals try exact absurd hlt (by omega)
      refine go_count s.length (fun i => ⟨[(6, .int .i64 i), (0, .sl (l.map encSample)), (1, .sl (s.map encStd))], [], 0, 59⟩) (fun i => ∀ j (hj : j < i) (hj' : j < s.length), shortT s[j] = true) (entails_eq (k := 0) (ns := []) (ks := [6, 0, 1]) [] rfl (by simp) rfl) (fun j hj => absurd hj (by omega)) ?_
      intro i hi2 hD
      by_cases hlt2 : i < s.length
      · have hlim := hls s[i] (List.getElem_mem hlt2)
        repeat' first
           | (with_reducible apply go_op)
           | (with_reducible apply go_next)
           | ((with_reducible (show evOp _ _ _ _ _ _)); first
             | ((with_reducible (show evOp _ (.move _) _ _ _ _)) ; first | ((with_reducible apply go_mv_int); rfl; rfl) | ((with_reducible apply go_mv_bool); rfl; rfl) | ((with_reducible apply go_mv_sl); rfl; rfl))
             | ((with_reducible apply go_as))
             | (((with_reducible apply go_load); rfl; rfl; rfl))
             | (((with_reducible apply go_fieldAddr); rfl; rfl))
             | (((with_reducible apply go_index_nat); rfl; rfl; (with_reducible rfl); (intro; rfl); rfl; omega; (intro hlt)))
             | ((with_reducible (show evOp _ (.binOp _ _ _ _ _) _ _ _ _)) ; first | ((with_reducible apply go_cmp); rfl; rfl; rfl; rfl) | ((with_reducible apply go_add); rfl; rfl; rfl; omega))
             | ((with_reducible (show evOp _ (.call _) _ _ _ _)) ; first | ((with_reducible apply go_len); rfl; rfl) | ((with_reducible apply go_len_str); rfl; rfl))
             | (((with_reducible apply go_pick); rfl; rfl; rfl)))
           | ((with_reducible (show evOps _ _ _ _ _ _)); first
             | (with_reducible apply go_nil)
             | ((with_reducible apply go_run); rfl; rfl)
             | ((with_reducible apply go_pass); rfl; rfl; rfl)
             | (((with_reducible apply go_guard); rfl) <;> (intro h; simp only [h, Bool.not_true, Bool.not_false]; (try with_reducible (refine ⟨rfl, ?_⟩)); try simp only [decide_eq_true_eq, decide_eq_false_iff_not, Bool.not_eq_true', Bool.not_eq_false', Bool.not_true, Bool.not_false] at h; try exact absurd trivial h)))
           | ((with_reducible (show evG _ _ _ _ _)); first
             | (with_reducible apply go_seq)
             | (with_reducible apply go_region)
             | ((with_reducible apply go_cond_t); rfl; rfl)
             | (((with_reducible apply go_cond); rfl) <;> (intro h; simp only [h]; try simp only [decide_eq_true_eq, decide_eq_false_iff_not, Bool.not_eq_true', Bool.not_eq_false', Bool.not_true, Bool.not_false] at h; try exact absurd trivial h))
             | (with_reducible apply go_ret)
             | (with_reducible apply go_skipc)
             | (with_reducible apply go_block)
             | (with_reducible apply go_exit))
           | (with_reducible apply go_kseq)
           | (with_reducible apply go_kseq_ret)
           | (with_reducible apply go_kblock)
           | (with_reducible apply go_kblock_ret)
           | (with_reducible apply go_kblock_exit)
           | (with_reducible apply go_kseq_exit)
           | ((with_reducible apply end_bool); rfl)
        all_goals first
          | exact absurd hlt2 (by omega)
          | (rw [all_false hlt2 (p := shortT) (decide_eq_false (by omega))])
          | (refine ⟨‹i < s.length›, fun j hj hj' => ?_, entails_eq (k := 0) (ns := []) (ks := [6, 0, 1]) [] rfl (by simp) rfl⟩
             rcases Nat.lt_succ_iff_lt_or_eq.1 hj with h' | rfl
             · exact hD j h' hj'
             · exact decide_eq_true (by omega))
          | trace_state
      · rw [all_true (p := shortT) fun j hj => hD j (by omega) hj]
        repeat' first
           | (with_reducible apply go_op)
           | (with_reducible apply go_next)
           | ((with_reducible (show evOp _ _ _ _ _ _)); first
             | ((with_reducible (show evOp _ (.move _) _ _ _ _)) ; first | ((with_reducible apply go_mv_int); rfl; rfl) | ((with_reducible apply go_mv_bool); rfl; rfl) | ((with_reducible apply go_mv_sl); rfl; rfl))
             | ((with_reducible apply go_as))
             | (((with_reducible apply go_load); rfl; rfl; rfl))
             | (((with_reducible apply go_fieldAddr); rfl; rfl))
             | (((with_reducible apply go_index_nat); rfl; rfl; (with_reducible rfl); (intro; rfl); rfl; omega; (intro hlt)))
             | ((with_reducible (show evOp _ (.binOp _ _ _ _ _) _ _ _ _)) ; first | ((with_reducible apply go_cmp); rfl; rfl; rfl; rfl) | ((with_reducible apply go_add); rfl; rfl; rfl; omega))
             | ((with_reducible (show evOp _ (.call _) _ _ _ _)) ; first | ((with_reducible apply go_len); rfl; rfl) | ((with_reducible apply go_len_str); rfl; rfl))
             | (((with_reducible apply go_pick); rfl; rfl; rfl)))
           | ((with_reducible (show evOps _ _ _ _ _ _)); first
             | (with_reducible apply go_nil)
             | ((with_reducible apply go_run); rfl; rfl)
             | ((with_reducible apply go_pass); rfl; rfl; rfl)
             | (((with_reducible apply go_guard); rfl) <;> (intro h; simp only [h, Bool.not_true, Bool.not_false]; (try with_reducible (refine ⟨rfl, ?_⟩)); try simp only [decide_eq_true_eq, decide_eq_false_iff_not, Bool.not_eq_true', Bool.not_eq_false', Bool.not_true, Bool.not_false] at h; try exact absurd trivial h)))
           | ((with_reducible (show evG _ _ _ _ _)); first
             | (with_reducible apply go_seq)
             | (with_reducible apply go_region)
             | ((with_reducible apply go_cond_t); rfl; rfl)
             | (((with_reducible apply go_cond); rfl) <;> (intro h; simp only [h]; try simp only [decide_eq_true_eq, decide_eq_false_iff_not, Bool.not_eq_true', Bool.not_eq_false', Bool.not_true, Bool.not_false] at h; try exact absurd trivial h))
             | (with_reducible apply go_ret)
             | (with_reducible apply go_skipc)
             | (with_reducible apply go_block)
             | (with_reducible apply go_exit))
           | (with_reducible apply go_kseq)
           | (with_reducible apply go_kseq_ret)
           | (with_reducible apply go_kblock)
           | (with_reducible apply go_kblock_ret)
           | (with_reducible apply go_kblock_exit)
           | (with_reducible apply go_kseq_exit)
           | ((with_reducible apply end_bool); rfl)
           | (with_reducible rfl)
        all_goals first
          | exact absurd hlt2 (by omega)
          | rfl
          | trace_state
  · have e0 : fewB l s = false := by unfold fewB; rw [decide_eq_false hn, Bool.false_and]
    rw [e0]
    refine contract_of mix Tryz.func19 rfl rfl (by rw [Tryz.ntmps19]; exact Nat.le_of_ble_eq_true rfl) ?_; rw [Tryz.results19, Tryz.ntmps19]; simp only [argsE, Nat.reduceAdd]
    repeat' first
           | (with_reducible apply go_op)
           | (with_reducible apply go_next)
           | ((with_reducible (show evOp _ _ _ _ _ _)); first
             | ((with_reducible (show evOp _ (.move _) _ _ _ _)) ; first | ((with_reducible apply go_mv_int); rfl; rfl) | ((with_reducible apply go_mv_bool); rfl; rfl) | ((with_reducible apply go_mv_sl); rfl; rfl))
             | ((with_reducible apply go_as))
             | (((with_reducible apply go_cmp); rfl; rfl; rfl; rfl))
             | (((with_reducible apply go_len); rfl; rfl))
             | (((with_reducible apply go_pick); rfl; rfl; rfl)))
           | ((with_reducible (show evOps _ _ _ _ _ _)); first
             | (with_reducible apply go_nil)
             | ((with_reducible apply go_run); rfl; rfl)
             | ((with_reducible apply go_pass); rfl; rfl; rfl)
             | (((with_reducible apply go_guard); rfl) <;> (intro h; simp only [h, Bool.not_true, Bool.not_false]; (try with_reducible (refine ⟨rfl, ?_⟩)); try simp only [decide_eq_true_eq, decide_eq_false_iff_not, Bool.not_eq_true', Bool.not_eq_false', Bool.not_true, Bool.not_false] at h; try exact absurd trivial h)))
           | ((with_reducible (show evG _ _ _ _ _)); first
             | (with_reducible apply go_seq)
             | (with_reducible apply go_region)
             | ((with_reducible apply go_cond_t); rfl; rfl)
             | (((with_reducible apply go_cond); rfl) <;> (intro h; simp only [h]; try simp only [decide_eq_true_eq, decide_eq_false_iff_not, Bool.not_eq_true', Bool.not_eq_false', Bool.not_true, Bool.not_false] at h; try exact absurd trivial h))
             | (with_reducible apply go_ret)
             | (with_reducible apply go_skipc)
             | (with_reducible apply go_block))
           | (with_reducible apply go_kseq)
           | (with_reducible apply go_kseq_ret)
           | ((with_reducible apply end_bool); rfl)
           | (with_reducible rfl)
    all_goals try (exfalso; omega)
end Go.Pv.Soil

open Go Go.Proofs Go.Shelf
set_option maxRecDepth 100000
namespace Go.Pv.Soil
def sortedI_ren : Go.Shelf.Ren := ⟨fun | 6 => 91 | 8 => 122 | 9 => 123 | 11 => 144 | 13 => 146 | 12 => 145 | 23 => 165 | 24 => 166 | 14 => 156 | 15 => 157 | 16 => 158 | 17 => 159 | 18 => 160 | 19 => 161 | 20 => 162 | 21 => 163 | 22 => 164 | 25 => 174 | 26 => 175 | 27 => 176 | 28 => 177 | 29 => 178 | 30 => 179 | 31 => 181 | n => n, fun | 26 => 3 | 28 => 139 | 24 => 26 | 0 => 0 | 3 => 3 | 37 => 174 | 48 => 192 | 50 => 194 | 4 => 4 | 40 => 185 | 39 => 184 | 45 => 86 | 5 => 5 | 9 => 9 | 51 => 200 | 55 => 204 | 57 => 206 | 58 => 52 | 33 => 92 | n => n, fun | n => n⟩
theorem sortedI : SlLaysZI.n6 Tryz.prog sortedI_ren := {
  mixed := by kernel_rfl,
  f6 := ⟨Tryz.f91.name, by decide, Tryz.func91.trans (congrArg some (by kernel_rfl))⟩,
  f8 := ⟨Tryz.f122.name, by decide, Tryz.func122.trans (congrArg some (by kernel_rfl))⟩,
  f11 := ⟨Tryz.f144.name, by decide, Tryz.func144.trans (congrArg some (by kernel_rfl))⟩,
  t0 := Tryz.underlying0,
  a0 := Tryz.isAgg0,
  z0 := Tryz.sizeOf0,
  v0 := Tryz.zeroValue0,
  t24 := Tryz.underlying26,
  a24 := Tryz.isAgg26,
  z24 := Tryz.sizeOf26,
  v24 := Tryz.zeroValue26,
  t26 := Tryz.underlying3,
  a26 := Tryz.isAgg3,
  z26 := Tryz.sizeOf3,
  v26 := Tryz.zeroValue3,
  t28 := Tryz.underlying139,
  a28 := Tryz.isAgg139,
  z28 := Tryz.sizeOf139,
  v28 := Tryz.zeroValue139,
  i26 := by kernel_rfl }
def sortI_ren : Go.Shelf.Ren := ⟨fun | 5 => 123 | 8 => 146 | 7 => 145 | 19 => 165 | 20 => 166 | 10 => 156 | 11 => 157 | 12 => 158 | 13 => 159 | 14 => 160 | 15 => 161 | 16 => 162 | 17 => 163 | 18 => 164 | 30 => 174 | 31 => 175 | 32 => 176 | 33 => 177 | 34 => 178 | 35 => 179 | 40 => 181 | n => n, fun | 23 => 26 | 25 => 3 | 3 => 3 | 32 => 174 | 22 => 26 | 0 => 0 | 44 => 192 | 46 => 194 | 4 => 4 | 36 => 185 | 35 => 184 | 41 => 86 | 5 => 5 | 9 => 9 | 53 => 200 | 57 => 204 | 63 => 206 | 64 => 52 | n => n, fun | n => n⟩
theorem sortI : SlLaysM.n5 Tryz.prog sortI_ren := {
  mixed := by kernel_rfl,
  f5 := ⟨Tryz.f123.name, by decide, Tryz.func123.trans (congrArg some (by kernel_rfl))⟩,
  f7 := ⟨Tryz.f145.name, by decide, Tryz.func145.trans (congrArg some (by kernel_rfl))⟩,
  f8 := Tryz.func146.trans (congrArg some (by kernel_rfl)),
  f10 := ⟨Tryz.f156.name, by decide, Tryz.func156.trans (congrArg some (by kernel_rfl))⟩,
  f11 := ⟨Tryz.f157.name, by decide, Tryz.func157.trans (congrArg some (by kernel_rfl))⟩,
  f12 := ⟨Tryz.f158.name, by decide, Tryz.func158.trans (congrArg some (by kernel_rfl))⟩,
  f13 := ⟨Tryz.f159.name, by decide, Tryz.func159.trans (congrArg some (by kernel_rfl))⟩,
  f14 := ⟨Tryz.f160.name, by decide, Tryz.func160.trans (congrArg some (by kernel_rfl))⟩,
  f15 := ⟨Tryz.f161.name, by decide, Tryz.func161.trans (congrArg some (by kernel_rfl))⟩,
  f16 := ⟨Tryz.f162.name, by decide, Tryz.func162.trans (congrArg some (by kernel_rfl))⟩,
  f17 := ⟨Tryz.f163.name, by decide, Tryz.func163.trans (congrArg some (by kernel_rfl))⟩,
  f18 := ⟨Tryz.f164.name, by decide, Tryz.func164.trans (congrArg some (by kernel_rfl))⟩,
  f19 := Tryz.func165.trans (congrArg some (by kernel_rfl)),
  f20 := Tryz.func166.trans (congrArg some (by kernel_rfl)),
  f30 := ⟨Tryz.f174.name, by decide, Tryz.func174.trans (congrArg some (by kernel_rfl))⟩,
  f31 := Tryz.func175.trans (congrArg some (by kernel_rfl)),
  f32 := Tryz.func176.trans (congrArg some (by kernel_rfl)),
  f33 := ⟨Tryz.f177.name, by decide, Tryz.func177.trans (congrArg some (by kernel_rfl))⟩,
  f34 := ⟨Tryz.f178.name, by decide, Tryz.func178.trans (congrArg some (by kernel_rfl))⟩,
  f35 := ⟨Tryz.f179.name, by decide, Tryz.func179.trans (congrArg some (by kernel_rfl))⟩,
  f40 := ⟨Tryz.f181.name, by decide, Tryz.func181.trans (congrArg some (by kernel_rfl))⟩,
  t0 := Tryz.underlying0,
  a0 := Tryz.isAgg0,
  z0 := Tryz.sizeOf0,
  v0 := Tryz.zeroValue0,
  t3 := Tryz.underlying3,
  a3 := Tryz.isAgg3,
  z3 := Tryz.sizeOf3,
  v3 := Tryz.zeroValue3,
  t4 := Tryz.underlying4,
  a4 := Tryz.isAgg4,
  z4 := Tryz.sizeOf4,
  v4 := Tryz.zeroValue4,
  t5 := Tryz.underlying5,
  a5 := Tryz.isAgg5,
  z5 := Tryz.sizeOf5,
  v5 := Tryz.zeroValue5,
  t9 := Tryz.underlying9,
  a9 := Tryz.isAgg9,
  z9 := Tryz.sizeOf9,
  v9 := Tryz.zeroValue9,
  t22 := Tryz.underlying26,
  a22 := Tryz.isAgg26,
  z22 := Tryz.sizeOf26,
  v22 := Tryz.zeroValue26,
  t23 := Tryz.underlying26,
  a23 := Tryz.isAgg26,
  z23 := Tryz.sizeOf26,
  v23 := Tryz.zeroValue26,
  t25 := Tryz.underlying3,
  a25 := Tryz.isAgg3,
  z25 := Tryz.sizeOf3,
  v25 := Tryz.zeroValue3,
  t32 := Tryz.underlying174,
  a32 := Tryz.isAgg174,
  z32 := Tryz.sizeOf174,
  v32 := Tryz.zeroValue174,
  t35 := Tryz.underlying184,
  a35 := Tryz.isAgg184,
  z35 := Tryz.sizeOf184,
  v35 := Tryz.zeroValue184,
  t36 := Tryz.underlying185,
  a36 := Tryz.isAgg185,
  z36 := Tryz.sizeOf185,
  v36 := Tryz.zeroValue185,
  t41 := Tryz.underlying86,
  a41 := Tryz.isAgg86,
  z41 := Tryz.sizeOf86,
  v41 := Tryz.zeroValue86,
  t44 := Tryz.underlying192,
  a44 := Tryz.isAgg192,
  z44 := Tryz.sizeOf192,
  v44 := Tryz.zeroValue192,
  t46 := Tryz.underlying194,
  a46 := Tryz.isAgg194,
  z46 := Tryz.sizeOf194,
  v46 := Tryz.zeroValue194,
  t53 := Tryz.underlying200,
  a53 := Tryz.isAgg200,
  z53 := Tryz.sizeOf200,
  v53 := Tryz.zeroValue200,
  t57 := Tryz.underlying204,
  a57 := Tryz.isAgg204,
  z57 := Tryz.sizeOf204,
  v57 := Tryz.zeroValue204,
  t63 := Tryz.underlying206,
  a63 := Tryz.isAgg206,
  z63 := Tryz.sizeOf206,
  v63 := Tryz.zeroValue206,
  t64 := Tryz.underlying52,
  a64 := Tryz.isAgg52,
  z64 := Tryz.sizeOf52,
  v64 := Tryz.zeroValue52 }
end Go.Pv.Soil

open Go Go.Proofs Go.Pv Go.RowKit Go.Shelf
attribute [local go_sem] Oper.semAt_some
set_option linter.unusedVariables false
namespace Go.Pv.Soil
/-- What has come behind k rounds. -/
def come (f : Nat → Int) (k : Nat) : List Int := (List.range k).map f
theorem come_succ (f : Nat → Int) (k : Nat) : come f (k + 1) = come f k ++ [f k] := by simp [come, List.range_succ]
theorem come_len (f : Nat → Int) (k : Nat) : (come f k).length = k := by simp [come]
theorem come_all (zs : List Int) : come (fun j => zs[j]?.getD 0) zs.length = zs := by
  apply List.ext_getElem
  · simp [come]
  · intro i h1 h2
    simp [come, h2]
set_option maxRecDepth 100000 in
set_option maxHeartbeats 2000000 in
theorem values_b (F : Fence) (n : Nat) (h7 : F.fn 124) (hro : F.round = none) (hn : 1 ≤ n) (w : World) (Bs b off len cap : Nat) (f : Nat → Int) (hreach : len * 8 ≤ 140737488351232) (hBl : Bs < w.heap.size) (hb : b < w.heap.size)
    (hBs : w.cell? ⟨Bs, 0, none⟩ = some (.slice (some ⟨b, off, none⟩) len cap)) (hc : ∀ j, j < len → w.cell? ⟨b, off + j, none⟩ = some (.int .i64 (f j))) :
    SeqB F n Tryz.prog 124 #[.pointer (some ⟨Bs, 0, none⟩)] (Value.int .i64) (fun ss => ss = come f len) len w := by
  intro l J W hW hJ hY h0
  have hBs' := (hW.cell (p := ⟨Bs, 0, none⟩) hBl).trans hBs
  refine callsIn_of_wp Tryz.func124 rfl h7 ?_ hro
  simp only [Tryz.ntmps124, List.size_toArray, List.length_cons, List.length_nil, Nat.reduceAdd, Nat.reduceSub, Array.replicate_succ, Array.replicate_zero, List.push_toArray, List.append_toArray, List.nil_append, List.cons_append]
  gi_wp2
  gi_loopw [7] (fun i wr => ∃ k : Nat, k ≤ len ∧ i = .int .i64 k ∧ J (come f k) wr)
    (fun i _ => len - (Go.Proofs.intOf i).toNat)
  case atStart => exact ⟨0, Nat.zero_le _, rfl, h0⟩
  case round =>
    obtain ⟨k, hk, rfl, hJs⟩ := hrel
    have hnx := hJ _ _ hJs
    have hcx : k < len → wr.cell? ⟨b, off + k, none⟩ = some (.int .i64 (f k)) := fun h => (hnx.cell (p := ⟨b, off + k, none⟩) hb).trans (hc k h)
    by_cases hlt : k < len
    · obtain ⟨fn, tmps, assign, body, hy, hR⟩ := hY _ (f k) wr hJs (by rw [come_len]; exact hlt)
      have hcx' := hcx hlt
      gi_wp2
      refine hR.mono ?_
      rintro e W3 ⟨rfl, hJ3, hk3⟩
      gi_wp2
      go_roundw
      case rel => exact ⟨k + 1, by omega, by simp, by rw [come_succ]; exact hJ3⟩
      case measure => simp [Go.Proofs.intOf]; omega
    · obtain rfl : k = len := by omega
      gi_wp2
      go_end0
      exact ⟨⟨_, rfl⟩, _, rfl, hJs⟩
end Go.Pv.Soil

open Go Go.Proofs Go.Pv Go.RowKit Go.Shelf
attribute [local go_sem] Oper.semAt_some
set_option linter.unusedVariables false
namespace Go.Pv.Soil
theorem sorts (m : Nat) : AnyZI.SortsIn Tryz.prog sortedI_ren Fence.wide m :=
  ⟨fun blk off cap ss W hH hblk hsz => callsIn_wide.2 (AnyM.slices_Sort_int sortI blk off cap ss W hH hblk hsz),
   fun p cap W => callsIn_wide.2 (AnyM.slices_Sort_int_none sortI p cap W)⟩
set_option maxHeartbeats 1000000 in
theorem values0 (F : Fence) (n : Nat) (h5 : F.fn 92) (hro : F.round = none) (a : Option Addr) (len cap : Nat) (w : World) :
    CallsIn F n Tryz.prog 92 #[.slice a len cap] w fun e w' => e = .returned (.func (.func 124) #[] #[.pointer (some ⟨w.heap.size, 0, none⟩)]) ∧ w' = w.alloc (.cells #[.slice a len cap] 26) := by
  refine callsIn_of_wp Tryz.func92 rfl h5 ?_ hro
  simp only [Tryz.ntmps92, List.size_toArray, List.length_cons, List.length_nil, Nat.reduceAdd, Nat.reduceSub, Array.replicate_succ, Array.replicate_zero, List.push_toArray, List.append_toArray, List.nil_append, List.cons_append]
  gi_wp2
  go_ret
  exact ⟨rfl, rfl⟩
end Go.Pv.Soil

/- Ranked values, without any program: the rank-th value of a sorted list. -/
namespace Go.Pv.Soil
theorem sortI_pw (l : List Int) : (l.mergeSort fun x y => decide (x ≤ y)).Pairwise fun a b => a ≤ b :=
  (List.pairwise_mergeSort (le := fun x y : Int => decide (x ≤ y)) (fun a b c h1 h2 => by simp at *; omega) (fun a b => by simp; omega) l).imp fun h => by simpa using h
theorem sortI_perm {l l' : List Int} (h : l.Perm l') : (l.mergeSort fun x y => decide (x ≤ y)) = l'.mergeSort fun x y => decide (x ≤ y) :=
  (((List.mergeSort_perm l _).trans h).trans (List.mergeSort_perm l' _).symm).eq_of_pairwise (fun a b _ _ h1 h2 => Int.le_antisymm h1 h2) (sortI_pw l) (sortI_pw l')
theorem cnt_low {s : List Int} (h : s.Pairwise fun a b => a ≤ b) {i : Nat} (hi : i < s.length) : i + 1 ≤ s.countP fun x => decide (x ≤ s[i]) := by
  have e : s = s.take (i + 1) ++ s.drop (i + 1) := (List.take_append_drop _ _).symm
  have h1 : (s.take (i + 1)).countP (fun x => decide (x ≤ s[i])) = (s.take (i + 1)).length := List.countP_eq_length.2 fun x hx => by
    obtain ⟨j, hj, rfl⟩ := List.mem_iff_getElem.1 hx
    rw [List.length_take] at hj
    rw [List.getElem_take]
    rcases Nat.lt_or_ge j i with hlt | hge
    · exact decide_eq_true (List.pairwise_iff_getElem.1 h j i (by omega) hi hlt)
    · have : j = i := by omega
      subst this
      simp
  have h2 : s.countP (fun x => decide (x ≤ s[i])) = (s.take (i + 1)).countP (fun x => decide (x ≤ s[i])) + (s.drop (i + 1)).countP (fun x => decide (x ≤ s[i])) := by
    rw [← List.countP_append, List.take_append_drop]
  rw [h2, h1, List.length_take]
  omega
theorem cnt_high {s : List Int} (h : s.Pairwise fun a b => a ≤ b) {i : Nat} (hi : i < s.length) {u : Int} (hu : u < s[i]) : (s.countP fun x => decide (x ≤ u)) ≤ i := by
  have h1 : (s.drop i).countP (fun x => decide (x ≤ u)) = 0 := List.countP_eq_zero.2 fun x hx => by
    obtain ⟨j, hj, rfl⟩ := List.mem_iff_getElem.1 hx
    rw [List.length_drop] at hj
    rw [List.getElem_drop]
    have : s[i] ≤ s[i + j] := by
      rcases Nat.eq_zero_or_pos j with rfl | hp
      · exact Int.le_refl _
      · exact List.pairwise_iff_getElem.1 h i (i + j) hi (by omega) (by omega)
    simp; omega
  have h2 : s.countP (fun x => decide (x ≤ u)) = (s.take i).countP (fun x => decide (x ≤ u)) + (s.drop i).countP (fun x => decide (x ≤ u)) := by
    rw [← List.countP_append, List.take_append_drop]
  have h3 := List.countP_le_length (p := fun x => decide (x ≤ u)) (l := s.take i)
  rw [List.length_take] at h3
  omega
/-- The rank-th value. -/
def rankI (zs : List Int) (num den : Int) : Int := (zs.mergeSort fun x y => decide (x ≤ y)).getD ((((zs.length : Int) * num + den - 1).tdiv den).toNat - 1) 0
/-- The rank, counted from 0, is a place in the list, and the first rank-th values are a part of num by den. -/
theorem rank_at (n : Nat) {num den : Int} (hn : 0 < n) (hd : 1 ≤ den) (hnum : 1 ≤ num ∧ num ≤ den) :
    ((((n : Int) * num + den - 1).tdiv den).toNat - 1 < n) ∧ (n : Int) * num ≤ (((((n : Int) * num + den - 1).tdiv den).toNat - 1 : Nat) + 1 : Int) * den := by
  have hp0 : num ≤ (n : Int) * num := by have := Int.mul_le_mul_of_nonneg_right (show (1 : Int) ≤ n by omega) (show 0 ≤ num by omega); omega
  have hp1 : (n : Int) * num ≤ n * den := Int.mul_le_mul_of_nonneg_left hnum.2 (by omega)
  rw [Int.tdiv_eq_ediv_of_nonneg (by omega)]
  have h1 : 1 ≤ ((n : Int) * num + den - 1) / den := (Int.le_ediv_iff_mul_le (by omega)).2 (by omega)
  have h2 : ((n : Int) * num + den - 1) / den < n + 1 := Int.ediv_lt_of_lt_mul (by omega) (by rw [Int.add_mul, Int.one_mul]; omega)
  generalize hq : ((n : Int) * num + den - 1) / den = q at *
  refine ⟨by omega, ?_⟩
  have e : (((q.toNat - 1 : Nat) : Int) + 1) = q := by omega
  rw [e]
  have h3 := Int.mul_ediv_add_emod ((n : Int) * num + den - 1) den
  have h4 := Int.emod_lt_of_pos ((n : Int) * num + den - 1) (show 0 < den by omega)
  rw [hq, Int.mul_comm] at h3
  omega
theorem rankI_perm {l l' : List Int} (h : l.Perm l') (num den : Int) : rankI l num den = rankI l' num den := by
  unfold rankI
  rw [sortI_perm h, h.length_eq]
theorem rankI_get {l : List Int} {num den : Int} (hn : 0 < l.length) (hd : 1 ≤ den) (hnum : 1 ≤ num ∧ num ≤ den) :
    ∃ h : (((l.length : Int) * num + den - 1).tdiv den).toNat - 1 < (l.mergeSort fun x y => decide (x ≤ y)).length, rankI l num den = (l.mergeSort fun x y => decide (x ≤ y))[(((l.length : Int) * num + den - 1).tdiv den).toNat - 1] := by
  have h := (rank_at l.length hn hd hnum).1
  have h' : (((l.length : Int) * num + den - 1).tdiv den).toNat - 1 < (l.mergeSort fun x y => decide (x ≤ y)).length := by rw [List.length_mergeSort]; exact h
  refine ⟨h', ?_⟩
  unfold rankI
  rw [List.getD_eq_getElem?_getD, List.getElem?_eq_getElem h']
  rfl
theorem rankI_mem {l : List Int} {num den : Int} (hn : 0 < l.length) (hd : 1 ≤ den) (hnum : 1 ≤ num ∧ num ≤ den) : rankI l num den ∈ l := by
  obtain ⟨h, e⟩ := rankI_get hn hd hnum
  rw [e]
  exact (List.mergeSort_perm l _).mem_iff.1 (List.getElem_mem h)
theorem cnt_sort (l : List Int) (u : Int) : (l.mergeSort fun x y => decide (x ≤ y)).countP (fun x => decide (x ≤ u)) = l.countP fun x => decide (x ≤ u) :=
  (List.mergeSort_perm l _).countP_eq _
theorem rankI_cnt {l : List Int} {num den : Int} (hn : 0 < l.length) (hd : 1 ≤ den) (hnum : 1 ≤ num ∧ num ≤ den) :
    (((l.length : Int) * num + den - 1).tdiv den).toNat - 1 + 1 ≤ l.countP fun x => decide (x ≤ rankI l num den) := by
  obtain ⟨h, e⟩ := rankI_get hn hd hnum
  rw [← cnt_sort, e]
  exact cnt_low (sortI_pw l) h
/-- As many as the rank says are at most the ranked value. -/
theorem rankI_most {l : List Int} {num den : Int} (hn : 0 < l.length) (hd : 1 ≤ den) (hnum : 1 ≤ num ∧ num ≤ den) :
    (l.length : Int) * num ≤ ((l.countP fun x => decide (x ≤ rankI l num den) : Nat) : Int) * den := by
  have h1 := rankI_cnt hn hd hnum
  have h2 := (rank_at l.length hn hd hnum).2
  refine Int.le_trans h2 (Int.mul_le_mul_of_nonneg_right (by omega) (by omega))
/-- The ranked value is the least one that so many are at most. -/
theorem rankI_least {l : List Int} {num den : Int} (hn : 0 < l.length) (hd : 1 ≤ den) (hnum : 1 ≤ num ∧ num ≤ den) {u : Int}
    (hu : (((l.length : Int) * num + den - 1).tdiv den).toNat - 1 + 1 ≤ l.countP fun x => decide (x ≤ u)) : rankI l num den ≤ u := by
  obtain ⟨h, e⟩ := rankI_get hn hd hnum
  rcases Int.lt_or_le u (rankI l num den) with hlt | hle
  · rw [e] at hlt
    have := cnt_high (sortI_pw l) h hlt
    rw [cnt_sort] at this
    omega
  · exact hle
/-- It does not fall if the first value grows. -/
theorem rankI_grow {a a' : Int} {l : List Int} {num den : Int} (h : a ≤ a') (hd : 1 ≤ den) (hnum : 1 ≤ num ∧ num ≤ den) : rankI (a :: l) num den ≤ rankI (a' :: l) num den := by
  refine rankI_least (by simp) hd hnum ?_
  have h1 := rankI_cnt (l := a' :: l) (by simp) hd hnum
  refine Nat.le_trans h1 ?_
  rw [List.countP_cons, List.countP_cons]
  by_cases hc : a' ≤ rankI (a' :: l) num den
  · rw [if_pos (by simpa using hc), if_pos (by simp; omega)]
    exact Nat.le_refl _
  · rw [if_neg (by simpa using hc)]
    omega
/-- Whether a rule is one. -/
def ruleOK (num den least : Int) : Bool := decide ((1 ≤ den ∧ den ≤ 1000) ∧ (1 ≤ num ∧ num ≤ den) ∧ 1 ≤ least ∧ least ≤ 60)
def inV (n : Int) : Bool := decide (0 ≤ n ∧ n ≤ 1000000000)
/-- The ranked value, or the error. -/
def rankedR (l : List Int) (num den least : Int) : Int × Int :=
  if ruleOK num den least = false then (0, 2) else if 60 < l.length then (0, 8) else if l.all inV = false then (0, 2) else if (l.length : Int) < least then (0, 11) else (rankI l num den, 0)
end Go.Pv.Soil

open Go Go.Proofs Go.Pv Go.RowKit Go.Shelf
attribute [local go_sem] Oper.semAt_some
set_option linter.unusedVariables false
namespace Go.Pv.Soil
set_option maxRecDepth 100000 in
set_option maxHeartbeats 2000000 in
theorem ranked_in (F : Fence) (h0 : F.fn 63) (h1 : F.fn 92) (h2 : F.fn 124) (h3 : F.fn 91) (h4 : F.fn 122) (h5 : F.fn 123) (h6 : F.fn 144) (hro : F.round = none) (hsort : AnyZI.SortsIn Tryz.prog sortedI_ren F 6) (b off cap : Nat) (zs : List Int) (num den least : Int) (hn : 0 < zs.length) (h60 : zs.length ≤ 60) (hl : least ≤ zs.length) (hd : 1 ≤ den ∧ den ≤ 1000) (hnum : 1 ≤ num ∧ num ≤ den) (w : World) (hb : b < w.heap.size)
    (hc : ∀ j, j < zs.length → w.cell? ⟨b, off + j, none⟩ = some (.int .i64 (zs[j]?.getD 0))) :
    CallsIn F 8 Tryz.prog 63 #[.slice (some ⟨b, off, none⟩) zs.length cap, .agg #[.int .i64 num, .int .i64 den, .int .i64 least]] w fun e w' =>
      e = .returned (.tuple #[.int .i64 (rankI zs num den), .int .i64 0]) ∧ Go.RowKit.Below w.heap.size w w' := by
  have hall : come (fun j : Nat => zs[j]?.getD 0) zs.length = zs := come_all zs
  unfold rankI
  rw [← hall]
  rw [come_len]
  generalize hm : zs.length = len at *
  generalize hf : (fun j : Nat => zs[j]?.getD 0) = f at *
  have hc' : ∀ j, j < len → w.cell? ⟨b, off + j, none⟩ = some (.int .i64 (f j)) := fun j hj => by rw [← hf]; exact hc j hj
  clear hc
  refine callsIn_of_wp Tryz.func63 rfl h0 ?_ hro
  simp only [Tryz.ntmps63, List.size_toArray, List.length_cons, List.length_nil, Nat.reduceAdd, Nat.reduceSub, Array.replicate_succ, Array.replicate_zero, List.push_toArray, List.append_toArray, List.nil_append, List.cons_append]
  have hseq : ∀ (W : World), Go.RowKit.Below w.heap.size w W → SeqB F (7 - 1 - 1 - 1) Tryz.prog 124 #[.pointer (some ⟨W.heap.size, 0, none⟩)] encZ (fun ss => ss = come f len) len (W.alloc (.cells #[.slice (some ⟨b, off, none⟩) len cap] 26)) := fun W hW => by
    have hW1 : Go.RowKit.Below w.heap.size w (W.alloc (.cells #[.slice (some ⟨b, off, none⟩) len cap] 26)) := hW.alloc hW.size _
    refine values_b F _ h2 hro (by omega) _ W.heap.size b off len cap f (by omega) (by simp) (by have := hW1.size; omega) ?_ fun j hj => (hW1.cell (p := ⟨b, off + j, none⟩) hb).trans (hc' j hj)
    have := World.alloc_heap_new W (.cells #[.slice (some ⟨b, off, none⟩) len cap] 26)
    simp only [World.cell?, this]
    rfl
  have hsrt : ∀ (W : World) (B : Nat), W.heap.size = B → Go.RowKit.Below w.heap.size w W → CallsIn F 7 Tryz.prog 91 #[.func (.func 124) #[] #[.pointer (some ⟨B, 0, none⟩)]] (W.alloc (.cells #[.slice (some ⟨b, off, none⟩) len cap] 26)) fun e w' =>
      ∃ v, e = .returned v ∧ w'.ownsRow (W.heap.size + 1) 3 1 v len (((come f len).mergeSort (fun x y => decide (x ≤ y))).map encZ) ∧ Go.RowKit.Below (W.heap.size + 1) (W.alloc (.cells #[.slice (some ⟨b, off, none⟩) len cap] 26)) w' := fun W B hB hW => by
    subst hB
    have h := sorted_b sortedI F 7 h3 h4 h5 h6 hro (by omega) hsort (enters_of Tryz.func123 (by kernel_rfl) rfl) 124 _ h2 (enters_of Tryz.func124 (by kernel_rfl) rfl) _ len (by simp [maxLen]; omega) (by omega) _ (hseq W hW)
    refine h.mono ?_
    rintro e w' ⟨v, ss, rfl, rfl, hrow, hnil, hbw⟩
    rw [come_len, World.size_alloc] at hrow
    rw [World.size_alloc] at hbw
    exact ⟨v, rfl, hrow, hbw⟩
  clear hseq hsort
  have hb1 : ∀ c t, Go.RowKit.Below w.heap.size w (w.alloc (.cells c t)) := fun c t => (Go.RowKit.Below.refl _ w).alloc (Nat.le_refl _) _
  have hbox : ∀ (c : Array Value) (t : TypeId) (w' : World), Go.RowKit.Below (w.heap.size + 2) ((w.alloc (.cells #[.int .i64 num, .int .i64 den, .int .i64 least] 48)).alloc (.cells c t)) w' →
      w'.cell? ⟨w.heap.size, 0, none⟩ = some (.int .i64 num) ∧ w'.cell? ⟨w.heap.size, 1, none⟩ = some (.int .i64 den) := fun c t w' h => by
    have h1 := h.block w.heap.size (by omega)
    have h2 := Go.RowKit.Below.heap_alloc (w.alloc (.cells #[.int .i64 num, .int .i64 den, .int .i64 least] 48)) (.cells c t) w.heap.size (by simp)
    have h3 := World.alloc_heap_new w (.cells #[.int .i64 num, .int .i64 den, .int .i64 least] 48)
    have h4 := h1.trans (h2.trans h3)
    refine ⟨?_, ?_⟩ <;> (simp only [World.cell?, h4]; rfl)
  have hp0 : num ≤ (len : Int) * num := by have := Int.mul_le_mul_of_nonneg_right (show (1 : Int) ≤ len by omega) (show 0 ≤ num by omega); omega
  have hp1 : (len : Int) * num ≤ len * den := Int.mul_le_mul_of_nonneg_left hnum.2 (by omega)
  have hp2 : (len : Int) * den ≤ 60000 := by have := Int.mul_le_mul (show (len : Int) ≤ 60 by omega) hd.2 (by omega) (by omega); omega
  have hq : 1 ≤ ((len : Int) * num + den - 1).tdiv den ∧ ((len : Int) * num + den - 1).tdiv den ≤ len := by
    rw [Int.tdiv_eq_ediv_of_nonneg (by omega)]
    refine ⟨(Int.le_ediv_iff_mul_le (by omega)).2 (by omega), ?_⟩
    have : ((len : Int) * num + den - 1) / den < len + 1 := Int.ediv_lt_of_lt_mul (by omega) (by rw [Int.add_mul, Int.one_mul]; omega)
    omega
  have w1 : RowKit.wrap64 ((len : Int) * num) = len * num := by simp only [RowKit.wrap64]; omega
  have w2 : RowKit.wrap64 ((len : Int) * num + den) = len * num + den := by simp only [RowKit.wrap64]; omega
  have w3 : RowKit.wrap64 ((len : Int) * num + den - 1) = len * num + den - 1 := by simp only [RowKit.wrap64]; omega
  have hcur : ∀ (cur : Array Value) (w' : World) (gb : Nat), w'.heap[gb]? = some (.cells cur 3 (0, 0)) → cur.toList.take (len * 1) = ((come f len).mergeSort fun x y => decide (x ≤ y)).map encZ →
      w'.cell? ⟨gb, (((len : Int) * num + den - 1).tdiv den).toNat - 1, none⟩ = some (.int .i64 (((come f len).mergeSort fun x y => decide (x ≤ y)).getD ((((len : Int) * num + den - 1).tdiv den).toNat - 1) 0)) := fun cur w' gb hgb hr => by
    have hi : (((len : Int) * num + den - 1).tdiv den).toNat - 1 < len := by omega
    generalize (((len : Int) * num + den - 1).tdiv den).toNat - 1 = i at *
    have hsl : ((come f len).mergeSort fun x y => decide (x ≤ y)).length = len := by rw [List.length_mergeSort, come_len]
    generalize ((come f len).mergeSort fun x y => decide (x ≤ y)) = S at *
    have h1 : (cur.toList.take (len * 1))[i]? = (S.map encZ)[i]? := by rw [hr]
    rw [List.getElem?_take_of_lt (by omega), List.getElem?_map, List.getElem?_eq_getElem (l := S) (i := i) (by omega)] at h1
    simp only [World.cell?, hgb]
    rw [List.getD_eq_getElem?_getD, List.getElem?_eq_getElem (l := S) (i := i) (by omega)]
    simpa using h1
  gi_wp2_with (first
    | (gi_at_call 92; refine (values0 F 7 h1 hro _ _ _ _).mono ?_; rintro e w' ⟨rfl, rfl⟩)
    | (gi_at_call 91; refine (hsrt _ _ (by simp) (hb1 _ _)).mono ?_; rintro e w' ⟨v, rfl, hrow, hbw⟩; (rcases hrow.2 with ⟨rfl, hz⟩ | ⟨gb, cap2, cur, rfl, hbase, hgb, r1, r2, r3, r4⟩); (exact absurd hz (by omega)); (obtain ⟨q0, q1⟩ := hbox _ _ _ (by simpa using hbw)); (have q2 := hcur _ _ _ hgb r4)))
  refine bodyPost_ret (results_tmp2 rfl _ _ _) rfl ?_
  exact ⟨by rw [hall, List.getD_eq_getElem?_getD]; rfl, ((hb1 _ _).alloc (hb1 _ _).size _).trans (hbw.mono (by simp; omega))⟩
end Go.Pv.Soil

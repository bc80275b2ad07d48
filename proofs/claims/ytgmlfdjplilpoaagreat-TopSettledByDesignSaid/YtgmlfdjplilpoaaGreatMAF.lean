import Derived.Test.YtgmlfdjplilpoaaGreatProg
import Derived.Test.YtgmlfdjplilpoaaGreatMAE
import Derived.Test.YtgmlfdjplilpoaaGreatMAD
import Derived.KernelRfl
/- Part of the proofs over YtgmlfdjplilpoaaGreat: S15, K33, K34, K35, K36, S16, S17, S23, S24, K37, PH4, PH20, PH21, K38, K39, S25, S26, S27, K40. -/
set_option linter.unusedVariables false
set_option linter.unusedSimpArgs false
set_option linter.unnecessarySimpa false
open Go Go.Proofs Go.Pv
set_option maxHeartbeats 1000000
set_option maxRecDepth 100000
set_option linter.unusedSimpArgs false
set_option linter.unusedVariables false
namespace Go.Pv.Soil

def encInt (n : Int) : List D := [.int .i64 n]

theorem c165 (l : List Int) (hl : l.length < 1000000000000) (g : FuncId) (p : Int → Bool) (hf : ∀ x ∈ l, Contract Tryz.prog g [.int .i64 x] (.ret (.bool (p x)))) :
    Contract Tryz.prog 78 [.sl (l.map encInt), .clo (.func g) [] []] (.ret (.int .i64 (idxOf p l))) := by
  refine contract_of mix Tryz.func78 rfl rfl (by rw [Tryz.ntmps78]; exact Nat.le_of_ble_eq_true rfl) ?_; rw [Tryz.results78, Tryz.ntmps78]; simp only [argsE, Nat.reduceAdd]
  repeat' first
           | (with_reducible apply go_op)
           | (with_reducible apply go_next)
           | ((with_reducible (show evOp _ _ _ _ _ _)); first
             | ((with_reducible (show evOp _ (.move _) _ _ _ _)) ; first | ((with_reducible apply go_mv_int); rfl; rfl) | ((with_reducible apply go_mv_sl); rfl; rfl))
             | ((with_reducible apply go_as))
             | (((with_reducible apply go_len); rfl; rfl)))
           | ((with_reducible (show evOps _ _ _ _ _ _)); first
             | (with_reducible apply go_nil))
           | ((with_reducible (show evG _ _ _ _ _)); first
             | (with_reducible apply go_seq)
             | (with_reducible apply go_region)
             | (with_reducible apply go_block))
           | (with_reducible apply go_kseq)
  refine go_count (l.length) (fun i => ⟨[(8, .int .i64 i), (7, .int .i64 l.length), (0, .sl (l.map encInt)), (1, .clo (.func g) [] [])], [], 0, 19⟩) (fun i => ∀ j (hj : j < i) (hj' : j < l.length), p l[j] = false) (entails_eq (k := 0) (ns := []) (ks := [8, 7, 0, 1]) [] rfl (by simp) rfl) (by omega) ?_
  intro i hi hC
  repeat' first
           | (with_reducible apply go_op)
           | (with_reducible apply go_next)
           | ((with_reducible (show evOp _ _ _ _ _ _)); first
             | ((with_reducible (show evOp _ (.move _) _ _ _ _)) ; first | ((with_reducible apply go_mv_int); rfl; rfl) | ((with_reducible apply go_mv_sl); rfl; rfl) | ((with_reducible apply go_mv_clo); rfl; rfl))
             | ((with_reducible apply go_as))
             | (((with_reducible apply go_load); rfl; rfl; rfl))
             | (((with_reducible apply go_index); rfl; rfl; (intro; rfl); rfl; omega; intro hlt))
             | (((with_reducible apply go_cmp); rfl; rfl; rfl; rfl)))
           | ((with_reducible (show evOps _ _ _ _ _ _)); first
             | (with_reducible apply go_nil))
           | ((with_reducible (show evG _ _ _ _ _)); first
             | (with_reducible apply go_seq)
             | (with_reducible apply go_region)
             | (((with_reducible apply go_cond); rfl) <;> (intro h; simp only [h]; try simp only [decide_eq_true_eq, decide_eq_false_iff_not, Bool.not_eq_true', Bool.not_eq_false', Bool.not_true, Bool.not_false] at h; try exact absurd trivial h))
             | (with_reducible apply go_ret)
             | (with_reducible apply go_skipc)
             | (with_reducible apply go_block)
             | (with_reducible apply go_exit))
           | (with_reducible apply go_kseq)
           | (with_reducible apply go_kblock_exit)
           | (with_reducible apply go_kseq_exit)
           | ((with_reducible apply end_int); rfl)
  · refine go_clo_bool rfl rfl (fun _ _ => rfl) (hf l[i] (List.getElem_mem _)) rfl ?_
    repeat' first
           | (with_reducible apply go_op)
           | (with_reducible apply go_next)
           | ((with_reducible (show evOp _ _ _ _ _ _)); first
             | (((with_reducible apply go_mv_int); rfl; rfl))
             | ((with_reducible apply go_as))
             | (((with_reducible apply go_add); rfl; rfl; rfl; omega)))
           | ((with_reducible (show evOps _ _ _ _ _ _)); first
             | (with_reducible apply go_nil))
           | ((with_reducible (show evG _ _ _ _ _)); first
             | (with_reducible apply go_seq)
             | (with_reducible apply go_region)
             | (((with_reducible apply go_cond); rfl) <;> (intro h; simp only [h]; try simp only [decide_eq_true_eq, decide_eq_false_iff_not, Bool.not_eq_true', Bool.not_eq_false', Bool.not_true, Bool.not_false] at h; try exact absurd trivial h))
             | (with_reducible apply go_ret)
             | (with_reducible apply go_skipc))
           | (with_reducible apply go_kseq)
           | (with_reducible apply go_kseq_ret)
           | (with_reducible apply go_kblock)
           | (with_reducible apply go_kblock_ret)
           | ((with_reducible apply end_int); rfl)
    · have h2 : i < l.length := by omega
      exact (idxOf_some h2 h fun j hj => hC j hj (by omega)).symm
    · have h2 : i < l.length := by omega
      refine ⟨by omega, fun j hj hj' => ?_, entails_eq (k := 0) (ns := []) (ks := [8, 7, 0, 1]) [] rfl (by simp) rfl⟩
      rcases Nat.lt_succ_iff_lt_or_eq.1 hj with h' | rfl
      · exact hC j h' hj'
      · exact h
  · refine (idxOf_none fun x hx => ?_).symm
    obtain ⟨j, hj, rfl⟩ := List.mem_iff_getElem.1 hx
    exact hC j (by omega) hj

theorem c124 (l : List Int) (hl : l.length < 1000000000000) (g : FuncId) (p : Int → Bool) (hf : ∀ x ∈ l, Contract Tryz.prog g [.int .i64 x] (.ret (.bool (p x)))) :
    Contract Tryz.prog 61 [.sl (l.map encInt), .clo (.func g) [] []] (.ret (.bool (l.any p))) := by
  refine contract_of mix Tryz.func61 rfl rfl (by rw [Tryz.ntmps61]; exact Nat.le_of_ble_eq_true rfl) ?_; rw [Tryz.results61, Tryz.ntmps61]; simp only [argsE, Nat.reduceAdd]
  repeat' first
           | (with_reducible apply go_op)
           | (with_reducible apply go_next)
           | ((with_reducible (show evOp _ _ _ _ _ _)); first
             | ((with_reducible (show evOp _ (.move _) _ _ _ _)) ; first | ((with_reducible apply go_mv_bool); rfl; rfl) | ((with_reducible apply go_mv_sl); rfl; rfl) | ((with_reducible apply go_mv_clo); rfl; rfl))
             | ((with_reducible apply go_as))
             | (((with_reducible apply go_cmp); rfl; rfl; rfl; rfl))
             | (((with_reducible apply go_fn_int); rfl; (exact c165 l hl g p hf); rfl)))
           | ((with_reducible (show evOps _ _ _ _ _ _)); first
             | (with_reducible apply go_nil))
           | ((with_reducible (show evG _ _ _ _ _)); first
             | (with_reducible apply go_seq)
             | (with_reducible apply go_region)
             | (with_reducible apply go_ret))
           | (with_reducible apply go_kseq)
           | ((with_reducible apply end_bool); rfl)
  exact idxOf_ge
/-- The error of a ground, a place and levels. -/
def askedE (g : Ground) (p : Pt) (l : List Int) : Int := if groundE g ≠ 0 then groundE g else if ptOK p = false ∨ (l.any fun n => !lvOK n) = true then 2 else 0

theorem pt_no {p : Pt} (h : ¬ ((-1000000 ≤ p.x ∧ p.x ≤ 1000000) ∧ (-1000000 ≤ p.y ∧ p.y ≤ 1000000))) : true = !ptOK p := by
  simp only [ptOK, decide_eq_false h, Bool.not_false]
theorem pt_yes {p : Pt} (h : (-1000000 ≤ p.x ∧ p.x ≤ 1000000) ∧ (-1000000 ≤ p.y ∧ p.y ≤ 1000000)) : false = !ptOK p := by
  simp only [ptOK, decide_eq_true h, Bool.not_true]
theorem c172 (p : Pt) : Contract Tryz.prog 102 [.agg (encPt p)] (.ret (.bool (!ptOK p))) := by
  refine contract_of mix Tryz.func102 rfl rfl (by rw [Tryz.ntmps102]; exact Nat.le_of_ble_eq_true rfl) ?_; rw [Tryz.results102, Tryz.ntmps102]; simp only [argsE, Nat.reduceAdd]
  repeat' first
           | (with_reducible apply go_op)
           | (with_reducible apply go_next)
           | ((with_reducible (show evOp _ _ _ _ _ _)); first
             | (((with_reducible apply go_mv_bool); rfl; rfl))
             | ((with_reducible apply go_as))
             | (((with_reducible apply go_load_own); rfl; rfl; rfl; rfl))
             | (((with_reducible apply go_fieldAddr_own); rfl; rfl; rfl))
             | (((with_reducible apply go_cmp); rfl; rfl; rfl; rfl))
             | (((with_reducible apply go_pick); rfl; rfl; rfl))
             | (((with_reducible apply go_bx_agg); rfl; rfl; (exact Nat.le_of_ble_eq_true rfl); rfl; rfl)))
           | ((with_reducible (show evOps _ _ _ _ _ _)); first
             | (with_reducible apply go_nil)
             | ((with_reducible apply go_run); rfl; rfl)
             | ((with_reducible apply go_pass); rfl; rfl; rfl)
             | (((with_reducible apply go_guard); rfl) <;> (intro h; simp only [h, Bool.not_true, Bool.not_false]; (try with_reducible (refine ⟨rfl, ?_⟩)); try simp only [decide_eq_true_eq, decide_eq_false_iff_not, Bool.not_eq_true', Bool.not_eq_false', Bool.not_true, Bool.not_false] at h; try exact absurd trivial h)))
           | ((with_reducible (show evG _ _ _ _ _)); first
             | (with_reducible apply go_seq)
             | (with_reducible apply go_region)
             | (with_reducible apply go_ret))
           | (with_reducible apply go_kseq)
           | ((with_reducible apply end_bool); rfl)
  · by_cases h4 : 1000000 < p.y
    · rw [decide_eq_true h4]; exact pt_no (p := p) (by omega)
    · rw [decide_eq_false h4]; exact pt_yes (p := p) (by omega)
  all_goals exact pt_no (p := p) (by omega)

theorem c196 (l : List Pt) (hl : l.length < 1000000000000) (g : FuncId) (p : Pt → Bool) (hf : ∀ x ∈ l, Contract Tryz.prog g [.agg (encPt x)] (.ret (.bool (p x)))) :
    Contract Tryz.prog 108 [.sl (l.map encPt), .clo (.func g) [] []] (.ret (.int .i64 (idxOf p l))) := by
  refine contract_of mix Tryz.func108 rfl rfl (by rw [Tryz.ntmps108]; exact Nat.le_of_ble_eq_true rfl) ?_; rw [Tryz.results108, Tryz.ntmps108]; simp only [argsE, Nat.reduceAdd]
  repeat' first
           | (with_reducible apply go_op)
           | (with_reducible apply go_next)
           | ((with_reducible (show evOp _ _ _ _ _ _)); first
             | ((with_reducible (show evOp _ (.move _) _ _ _ _)) ; first | ((with_reducible apply go_mv_int); rfl; rfl) | ((with_reducible apply go_mv_sl); rfl; rfl))
             | ((with_reducible apply go_as))
             | (((with_reducible apply go_len); rfl; rfl)))
           | ((with_reducible (show evOps _ _ _ _ _ _)); first
             | (with_reducible apply go_nil))
           | ((with_reducible (show evG _ _ _ _ _)); first
             | (with_reducible apply go_seq)
             | (with_reducible apply go_region)
             | (with_reducible apply go_block))
           | (with_reducible apply go_kseq)
  refine go_count (l.length) (fun i => ⟨[(8, .int .i64 i), (7, .int .i64 l.length), (0, .sl (l.map encPt)), (1, .clo (.func g) [] [])], [], 0, 19⟩) (fun i => ∀ j (hj : j < i) (hj' : j < l.length), p l[j] = false) (entails_eq (k := 0) (ns := []) (ks := [8, 7, 0, 1]) [] rfl (by simp) rfl) (by omega) ?_
  intro i hi hC
  repeat' first
           | (with_reducible apply go_op)
           | (with_reducible apply go_next)
           | ((with_reducible (show evOp _ _ _ _ _ _)); first
             | ((with_reducible (show evOp _ (.move _) _ _ _ _)) ; first | ((with_reducible apply go_mv_int); rfl; rfl) | ((with_reducible apply go_mv_sl); rfl; rfl) | ((with_reducible apply go_mv_clo); rfl; rfl))
             | ((with_reducible apply go_as))
             | (((with_reducible apply go_load); rfl; rfl; rfl))
             | (((with_reducible apply go_index); rfl; rfl; (intro; rfl); rfl; omega; intro hlt))
             | (((with_reducible apply go_cmp); rfl; rfl; rfl; rfl)))
           | ((with_reducible (show evOps _ _ _ _ _ _)); first
             | (with_reducible apply go_nil))
           | ((with_reducible (show evG _ _ _ _ _)); first
             | (with_reducible apply go_seq)
             | (with_reducible apply go_region)
             | (((with_reducible apply go_cond); rfl) <;> (intro h; simp only [h]; try simp only [decide_eq_true_eq, decide_eq_false_iff_not, Bool.not_eq_true', Bool.not_eq_false', Bool.not_true, Bool.not_false] at h; try exact absurd trivial h))
             | (with_reducible apply go_ret)
             | (with_reducible apply go_skipc)
             | (with_reducible apply go_block)
             | (with_reducible apply go_exit))
           | (with_reducible apply go_kseq)
           | (with_reducible apply go_kblock_exit)
           | (with_reducible apply go_kseq_exit)
           | ((with_reducible apply end_int); rfl)
  · refine go_clo_bool (d1 := .agg (encPt l[i])) rfl rfl (fun _ _ => rfl) (hf l[i] (List.getElem_mem _)) rfl ?_
    repeat' first
           | (with_reducible apply go_op)
           | (with_reducible apply go_next)
           | ((with_reducible (show evOp _ _ _ _ _ _)); first
             | (((with_reducible apply go_mv_int); rfl; rfl))
             | ((with_reducible apply go_as))
             | (((with_reducible apply go_add); rfl; rfl; rfl; omega)))
           | ((with_reducible (show evOps _ _ _ _ _ _)); first
             | (with_reducible apply go_nil))
           | ((with_reducible (show evG _ _ _ _ _)); first
             | (with_reducible apply go_seq)
             | (with_reducible apply go_region)
             | (((with_reducible apply go_cond); rfl) <;> (intro h; simp only [h]; try simp only [decide_eq_true_eq, decide_eq_false_iff_not, Bool.not_eq_true', Bool.not_eq_false', Bool.not_true, Bool.not_false] at h; try exact absurd trivial h))
             | (with_reducible apply go_ret)
             | (with_reducible apply go_skipc))
           | (with_reducible apply go_kseq)
           | (with_reducible apply go_kseq_ret)
           | (with_reducible apply go_kblock)
           | (with_reducible apply go_kblock_ret)
           | ((with_reducible apply end_int); rfl)
    · have h2 : i < l.length := by omega
      exact (idxOf_some h2 h fun j hj => hC j hj (by omega)).symm
    · have h2 : i < l.length := by omega
      refine ⟨by omega, fun j hj hj' => ?_, entails_eq (k := 0) (ns := []) (ks := [8, 7, 0, 1]) [] rfl (by simp) rfl⟩
      rcases Nat.lt_succ_iff_lt_or_eq.1 hj with h' | rfl
      · exact hC j h' hj'
      · exact h
  · refine (idxOf_none fun x hx => ?_).symm
    obtain ⟨j, hj, rfl⟩ := List.mem_iff_getElem.1 hx
    exact hC j (by omega) hj
theorem c171 (l : List Pt) (hl : l.length < 1000000000000) (g : FuncId) (p : Pt → Bool) (hf : ∀ x ∈ l, Contract Tryz.prog g [.agg (encPt x)] (.ret (.bool (p x)))) :
    Contract Tryz.prog 101 [.sl (l.map encPt), .clo (.func g) [] []] (.ret (.bool (l.any p))) := by
  refine contract_of mix Tryz.func101 rfl rfl (by rw [Tryz.ntmps101]; exact Nat.le_of_ble_eq_true rfl) ?_; rw [Tryz.results101, Tryz.ntmps101]; simp only [argsE, Nat.reduceAdd]
  repeat' first
           | (with_reducible apply go_op)
           | (with_reducible apply go_next)
           | ((with_reducible (show evOp _ _ _ _ _ _)); first
             | ((with_reducible (show evOp _ (.move _) _ _ _ _)) ; first | ((with_reducible apply go_mv_bool); rfl; rfl) | ((with_reducible apply go_mv_sl); rfl; rfl) | ((with_reducible apply go_mv_clo); rfl; rfl))
             | ((with_reducible apply go_as))
             | (((with_reducible apply go_cmp); rfl; rfl; rfl; rfl))
             | (((with_reducible apply go_fn_int); rfl; (exact c196 l hl g p hf); rfl)))
           | ((with_reducible (show evOps _ _ _ _ _ _)); first
             | (with_reducible apply go_nil))
           | ((with_reducible (show evG _ _ _ _ _)); first
             | (with_reducible apply go_seq)
             | (with_reducible apply go_region)
             | (with_reducible apply go_ret))
           | (with_reducible apply go_kseq)
           | ((with_reducible apply end_bool); rfl)
  exact idxOf_ge
theorem c128 (l : List Pt) (hl : l.length < 1000000000000) : Contract Tryz.prog 93 [.sl (l.map encPt)] (.ret (.bool (l.any fun p => !ptOK p))) := by
  refine contract_of mix Tryz.func93 rfl rfl (by rw [Tryz.ntmps93]; exact Nat.le_of_ble_eq_true rfl) ?_; rw [Tryz.results93, Tryz.ntmps93]; simp only [argsE, Nat.reduceAdd]
  repeat' first
           | (with_reducible apply go_op)
           | (with_reducible apply go_next)
           | ((with_reducible (show evOp _ _ _ _ _ _)); first
             | ((with_reducible (show evOp _ (.move _) _ _ _ _)) ; first | ((with_reducible apply go_mv_bool); rfl; rfl) | ((with_reducible apply go_mv_sl); rfl; rfl))
             | ((with_reducible apply go_as))
             | (((with_reducible apply go_fn_bool); rfl; (exact c171 l hl 102 (fun p => !ptOK p) fun x _ => c172 x); rfl)))
           | ((with_reducible (show evOps _ _ _ _ _ _)); first
             | (with_reducible apply go_nil))
           | ((with_reducible (show evG _ _ _ _ _)); first
             | (with_reducible apply go_seq)
             | (with_reducible apply go_region)
             | (with_reducible apply go_ret))
           | (with_reducible apply go_kseq)
           | ((with_reducible apply end_bool); rfl)
           | (with_reducible rfl)

/-- The scalar product of b - a and c - a. -/
def dotE (a b c : Pt) : Int := (b.x - a.x) * (c.x - a.x) + (b.y - a.y) * (c.y - a.y)
def sqE (a b : Pt) : Int := (b.x - a.x) * (b.x - a.x) + (b.y - a.y) * (b.y - a.y)

theorem ptOK_bd {p : Pt} (h : ptOK p = true) : (-1000000 ≤ p.x ∧ p.x ≤ 1000000) ∧ (-1000000 ≤ p.y ∧ p.y ≤ 1000000) := by
  simpa [ptOK] using h
theorem prod_bd {a b m : Int} (hm : 0 ≤ m) (ha : -m ≤ a ∧ a ≤ m) (hb : -m ≤ b ∧ b ≤ m) : -(m * m) ≤ a * b ∧ a * b ≤ m * m := by
  have h : (a * b).natAbs ≤ (m * m).natAbs := by
    rw [Int.natAbs_mul, Int.natAbs_mul]
    exact Nat.mul_le_mul (by omega) (by omega)
  have h2 : ((m * m).natAbs : Int) = m * m := Int.natAbs_of_nonneg (Int.mul_nonneg hm hm)
  omega
theorem prod4 {a b : Int} (ha : -2000000 ≤ a ∧ a ≤ 2000000) (hb : -2000000 ≤ b ∧ b ≤ 2000000) : -4000000000000 ≤ a * b ∧ a * b ≤ 4000000000000 := by
  have := prod_bd (m := 2000000) (by omega) ha hb; omega

theorem c133 (a b c : Pt) (ha : ptOK a = true) (hb : ptOK b = true) (hc : ptOK c = true) : Contract Tryz.prog 103 [.agg (encPt a), .agg (encPt b), .agg (encPt c)] (.ret (.int .i64 (dotE a b c))) := by
  have h1 := ptOK_bd ha
  have h2 := ptOK_bd hb
  have h3 := ptOK_bd hc
  have m1 := prod4 (a := b.x - a.x) (b := c.x - a.x) (by omega) (by omega)
  have m2 := prod4 (a := b.y - a.y) (b := c.y - a.y) (by omega) (by omega)
  refine contract_of mix Tryz.func103 rfl rfl (by rw [Tryz.ntmps103]; exact Nat.le_of_ble_eq_true rfl) ?_; rw [Tryz.results103, Tryz.ntmps103]; simp only [argsE, Nat.reduceAdd]
  repeat' first
           | (with_reducible apply go_op)
           | (with_reducible apply go_next)
           | ((with_reducible (show evOp _ _ _ _ _ _)); first
             | (((with_reducible apply go_mv_int); rfl; rfl))
             | ((with_reducible apply go_as))
             | (((with_reducible apply go_load_own); rfl; rfl; rfl; rfl))
             | (((with_reducible apply go_fieldAddr_own); rfl; rfl; rfl))
             | ((with_reducible (show evOp _ (.binOp _ _ _ _ _) _ _ _ _)) ; first | ((with_reducible apply go_add); rfl; rfl; rfl; omega) | ((with_reducible apply go_sub); rfl; rfl; rfl; omega) | ((with_reducible apply go_mul); rfl; rfl; rfl; omega))
             | (((with_reducible apply go_bx_agg); rfl; rfl; (exact Nat.le_of_ble_eq_true rfl); rfl; rfl)))
           | ((with_reducible (show evOps _ _ _ _ _ _)); first
             | (with_reducible apply go_nil))
           | ((with_reducible (show evG _ _ _ _ _)); first
             | (with_reducible apply go_seq)
             | (with_reducible apply go_region)
             | (with_reducible apply go_ret))
           | (with_reducible apply go_kseq)
           | ((with_reducible apply end_int); rfl)
  rfl
end Go.Pv.Soil

open Go Go.Proofs Go.Pv
set_option maxHeartbeats 4000000
set_option maxRecDepth 100000
set_option linter.unusedVariables false
namespace Go.Pv.Soil
set_option linter.unusedVariables false
theorem h_indexR (l : List Reg) (hl : l.length < 1000000000000) (g : FuncId) (ys : List D) (hst : Stab ys) (hpu : pureL ys = true) (p : Reg → Bool) (hf : ∀ x ∈ l, Contract Tryz.prog g (.agg (encReg x) :: ys) (.ret (.bool (p x)))) :
    Contract Tryz.prog 88 [.sl (l.map encReg), .clo (.func g) [] ys] (.ret (.int .i64 (idxOf p l))) := by
  refine contract_of mix Tryz.func88 rfl rfl (by rw [Tryz.ntmps88]; exact Nat.le_of_ble_eq_true rfl) ?_; rw [Tryz.results88, Tryz.ntmps88]; simp only [argsE, Nat.reduceAdd]
  repeat' first
           | (with_reducible apply go_op)
           | (with_reducible apply go_next)
           | ((with_reducible (show evOp _ _ _ _ _ _)); first
             | ((with_reducible (show evOp _ (.move _) _ _ _ _)) ; first | ((with_reducible apply go_mv_int); rfl; rfl) | ((with_reducible apply go_mv_sl); rfl; rfl))
             | ((with_reducible apply go_as))
             | (((with_reducible apply go_len); rfl; rfl)))
           | ((with_reducible (show evOps _ _ _ _ _ _)); first
             | (with_reducible apply go_nil))
           | ((with_reducible (show evG _ _ _ _ _)); first
             | (with_reducible apply go_seq)
             | (with_reducible apply go_region)
             | (with_reducible apply go_block))
           | (with_reducible apply go_kseq)
  have e8 : ∀ i : Nat, (⟨[(8, .int .i64 i), (7, .int .i64 l.length), (0, .sl (l.map encReg)), (1, .clo (.func g) [] (renL [] ys))], [], 0, 19⟩ : St) = ⟨[(8, .int .i64 i), (7, .int .i64 l.length), (0, .sl (l.map encReg)), (1, .clo (.func g) [] ys)], [], 0, 19⟩ := fun i => by rw [renL_pure hpu]
  refine go_count l.length (fun i => ⟨[(8, .int .i64 i), (7, .int .i64 l.length), (0, .sl (l.map encReg)), (1, .clo (.func g) [] ys)], [], 0, 19⟩) (fun i => ∀ j (hj : j < i) (hj' : j < l.length), p l[j] = false) (entails_eq (k := 0) (ns := []) (ks := [8, 7, 0, 1]) [] rfl (by simp) (e8 _)) (by omega) ?_
  intro i hi hC
  repeat' first
           | (with_reducible apply go_op)
           | (with_reducible apply go_next)
           | ((with_reducible (show evOp _ _ _ _ _ _)); first
             | ((with_reducible (show evOp _ (.move _) _ _ _ _)) ; first | ((with_reducible apply go_mv_int); rfl; rfl) | ((with_reducible apply go_mv_sl); rfl; rfl) | ((with_reducible apply go_mv_clo); rfl; rfl))
             | ((with_reducible apply go_as))
             | (((with_reducible apply go_ld_ptr); rfl; rfl; rfl))
             | (((with_reducible apply go_index_nat); rfl; rfl; (with_reducible rfl); (intro; rfl); rfl; omega; (intro hlt)))
             | (((with_reducible apply go_cmp); rfl; rfl; rfl; rfl)))
           | ((with_reducible (show evOps _ _ _ _ _ _)); first
             | (with_reducible apply go_nil))
           | ((with_reducible (show evG _ _ _ _ _)); first
             | (with_reducible apply go_seq)
             | (with_reducible apply go_region)
             | (((with_reducible apply go_cond); rfl) <;> (intro h; simp only [h]; try simp only [decide_eq_true_eq, decide_eq_false_iff_not, Bool.not_eq_true', Bool.not_eq_false', Bool.not_true, Bool.not_false] at h; try exact absurd trivial h))
             | (with_reducible apply go_ret)
             | (with_reducible apply go_skipc)
             | (with_reducible apply go_block)
             | (with_reducible apply go_exit))
           | (with_reducible apply go_kseq)
           | (with_reducible apply go_kblock_exit)
           | (with_reducible apply go_kseq_exit)
           | ((with_reducible apply end_int); rfl)
  · refine go_clo_bool rfl rfl hst (hf l[i] (List.getElem_mem _)) rfl ?_
    repeat' first
           | (with_reducible apply go_op)
           | (with_reducible apply go_next)
           | ((with_reducible (show evOp _ _ _ _ _ _)); first
             | (((with_reducible apply go_mv_int); rfl; rfl))
             | ((with_reducible apply go_as))
             | (((with_reducible apply go_add); rfl; rfl; rfl; omega)))
           | ((with_reducible (show evOps _ _ _ _ _ _)); first
             | (with_reducible apply go_nil))
           | ((with_reducible (show evG _ _ _ _ _)); first
             | (with_reducible apply go_seq)
             | (with_reducible apply go_region)
             | (((with_reducible apply go_cond); rfl) <;> (intro h; simp only [h]; try simp only [decide_eq_true_eq, decide_eq_false_iff_not, Bool.not_eq_true', Bool.not_eq_false', Bool.not_true, Bool.not_false] at h; try exact absurd trivial h))
             | (with_reducible apply go_ret)
             | (with_reducible apply go_skipc))
           | (with_reducible apply go_kseq)
           | (with_reducible apply go_kseq_ret)
           | (with_reducible apply go_kblock)
           | (with_reducible apply go_kblock_ret)
           | ((with_reducible apply end_int); rfl)
    · have h2 : i < l.length := by omega
      exact (idxOf_some h2 h fun j hj => hC j hj (by omega)).symm
    · have h2 : i < l.length := by omega
      refine ⟨by omega, fun j hj hj' => ?_, entails_eq (k := 0) (ns := []) (ks := [8, 7, 0, 1]) [] rfl (by simp) (e8 _)⟩
      rcases Nat.lt_succ_iff_lt_or_eq.1 hj with h' | rfl
      · exact hC j h' hj'
      · exact h
  · refine (idxOf_none fun x hx => ?_).symm
    obtain ⟨j, hj, rfl⟩ := List.mem_iff_getElem.1 hx
    exact hC j (by omega) hj
theorem h_containsR (l : List Reg) (hl : l.length < 1000000000000) (g : FuncId) (ys : List D) (hst : Stab ys) (hpu : pureL ys = true) (p : Reg → Bool) (hf : ∀ x ∈ l, Contract Tryz.prog g (.agg (encReg x) :: ys) (.ret (.bool (p x)))) :
    Contract Tryz.prog 74 [.sl (l.map encReg), .clo (.func g) [] ys] (.ret (.bool (l.any p))) := by
  refine contract_of mix Tryz.func74 rfl rfl (by rw [Tryz.ntmps74]; exact Nat.le_of_ble_eq_true rfl) ?_; rw [Tryz.results74, Tryz.ntmps74]; simp only [argsE, Nat.reduceAdd]
  repeat' first
           | (with_reducible apply go_op)
           | (with_reducible apply go_next)
           | ((with_reducible (show evOp _ _ _ _ _ _)); first
             | ((with_reducible (show evOp _ (.move _) _ _ _ _)) ; first | ((with_reducible apply go_mv_bool); rfl; rfl) | ((with_reducible apply go_mv_sl); rfl; rfl) | ((with_reducible apply go_mv_clo); rfl; rfl))
             | ((with_reducible apply go_as)))
           | ((with_reducible (show evOps _ _ _ _ _ _)); first
             | (with_reducible apply go_nil))
           | ((with_reducible (show evG _ _ _ _ _)); first
             | (with_reducible apply go_seq)
             | (with_reducible apply go_region))
           | (with_reducible apply go_kseq)
  refine go_fn_int (args' := [.sl (l.map encReg), .clo (.func g) [] ys]) ?_ (h_indexR l hl g ys hst hpu p hf) rfl ?_
  · have e := hst (lkH []) 45
    simp only [List.map_cons, List.map_nil, evalD, lkE, purL, pur, Option.bind_some, Option.map_some, Nat.reduceEqDiff, if_true, if_false, e]
  repeat' first
           | (with_reducible apply go_op)
           | (with_reducible apply go_next)
           | ((with_reducible (show evOp _ _ _ _ _ _)); first
             | (((with_reducible apply go_mv_bool); rfl; rfl))
             | ((with_reducible apply go_as))
             | (((with_reducible apply go_cmp); rfl; rfl; rfl; rfl)))
           | ((with_reducible (show evOps _ _ _ _ _ _)); first
             | (with_reducible apply go_nil))
           | ((with_reducible (show evG _ _ _ _ _)); first
             | (with_reducible apply go_ret))
           | (with_reducible apply go_kseq)
           | ((with_reducible apply end_bool); rfl)
  exact idxOf_ge
theorem h_region1 (q r : Reg) : Contract Tryz.prog 75 [.agg (encReg q), .ptr (encReg r)] (.ret (.bool (decide (q.name = r.name)))) := by
  refine contract_of mix Tryz.func75 rfl rfl (by rw [Tryz.ntmps75]; exact Nat.le_of_ble_eq_true rfl) ?_; rw [Tryz.results75, Tryz.ntmps75]; simp only [argsE, Nat.reduceAdd]
  repeat' first
           | (with_reducible apply go_op)
           | (with_reducible apply go_next)
           | ((with_reducible (show evOp _ _ _ _ _ _)); first
             | (((with_reducible apply go_mv_bool); rfl; rfl))
             | ((with_reducible apply go_as))
             | ((with_reducible (show evOp _ (.load _ _) _ _ _ _)) ; first | ((with_reducible apply go_load); rfl; rfl; rfl) | ((with_reducible apply go_load_own); rfl; rfl; rfl; rfl))
             | ((with_reducible (show evOp _ (.fieldAddr _ _ _) _ _ _ _)) ; first | ((with_reducible apply go_fieldAddr); rfl; rfl) | ((with_reducible apply go_fieldAddr_own); rfl; rfl; rfl))
             | (((with_reducible apply go_bin); rfl; rfl))
             | (((with_reducible apply go_bx_agg); rfl; rfl; (exact Nat.le_of_ble_eq_true rfl); rfl; rfl)))
           | ((with_reducible (show evOps _ _ _ _ _ _)); first
             | (with_reducible apply go_nil))
           | ((with_reducible (show evG _ _ _ _ _)); first
             | (with_reducible apply go_seq)
             | (with_reducible apply go_region)
             | (with_reducible apply go_ret))
           | (with_reducible apply go_kseq)
           | ((with_reducible apply end_bool); rfl)
           | (with_reducible rfl)
theorem h_checkRegion (r : Reg) (bef : List Reg) (hb : bef.length < 1000000000000) (hn : nameOK r.name = true) (hd : ∀ x ∈ bef, x.name ≠ r.name) (hk : 0 ≤ r.kind ∧ r.kind ≤ 3) (hp : Geo.polyE r.corners = 0) :
    Contract Tryz.prog 59 [.agg (encReg r), .sl (bef.map encReg)] (.ret (.int .i64 0)) := by
  have h1 := h_named r.name
  rw [hn] at h1
  have h2 := h_containsR bef hb 75 [.ptr (encReg r)] (fun _ _ => rfl) rfl (fun q => decide (q.name = r.name)) fun q _ => h_region1 q r
  rw [show (bef.any fun q => decide (q.name = r.name)) = false from List.any_eq_false.2 fun x hx => by simpa using hd x hx] at h2
  have h3 := Geo.c_CheckPolygon r.corners
  rw [hp] at h3
  refine contract_of mix Tryz.func59 rfl rfl (by rw [Tryz.ntmps59]; exact Nat.le_of_ble_eq_true rfl) ?_; rw [Tryz.results59, Tryz.ntmps59]; simp only [argsE, Nat.reduceAdd]
  repeat' first
           | (with_reducible apply go_op)
           | (with_reducible apply go_next)
           | ((with_reducible (show evOp _ _ _ _ _ _)); first
             | ((with_reducible (show evOp _ (.move _) _ _ _ _)) ; first | ((with_reducible apply go_mv_int); rfl; rfl) | ((with_reducible apply go_mv_bool); rfl; rfl) | ((with_reducible apply go_mv_sl); rfl; rfl))
             | ((with_reducible apply go_as))
             | (((with_reducible apply go_load_own); rfl; rfl; rfl; rfl))
             | (((with_reducible apply go_fieldAddr_own); rfl; rfl; rfl))
             | ((with_reducible (show evOp _ (.call _) _ _ _ _)) ; first | ((with_reducible apply go_fn_bool); rfl; (exact h1); rfl) | ((with_reducible apply go_fn_bool); rfl; (exact h_outside _ _ _); rfl) | ((with_reducible apply go_fn_int); rfl; (exact h3); rfl) | ((with_reducible apply go_fn_bool); rfl; (exact h2); rfl))
             | (((with_reducible apply go_not); rfl; rfl))
             | (((with_reducible apply go_bx_agg); rfl; rfl; (exact Nat.le_of_ble_eq_true rfl); rfl; rfl))
             | (((with_reducible apply go_fn1); rfl; rfl)))
           | ((with_reducible (show evOps _ _ _ _ _ _)); first
             | (with_reducible apply go_nil))
           | ((with_reducible (show evG _ _ _ _ _)); first
             | (with_reducible apply go_seq)
             | (with_reducible apply go_region)
             | ((with_reducible apply go_cond_f); rfl; rfl)
             | (((with_reducible apply go_cond); rfl) <;> (intro h; simp only [h]; try simp only [decide_eq_true_eq, decide_eq_false_iff_not, Bool.not_eq_true', Bool.not_eq_false', Bool.not_true, Bool.not_false] at h; try exact absurd trivial h))
             | (with_reducible apply go_ret)
             | (with_reducible apply go_skipc)
             | (with_reducible apply go_block))
           | (with_reducible apply go_kseq)
           | (with_reducible apply go_kseq_ret)
           | (with_reducible apply go_kblock)
           | (with_reducible apply go_kblock_ret)
           | ((with_reducible apply end_int); rfl)
           | (with_reducible rfl)
  all_goals first | rfl | (exfalso; omega) | trace_state
end Go.Pv.Soil

open Go Go.Proofs Go.Pv
set_option maxHeartbeats 4000000
set_option maxRecDepth 100000
set_option linter.unusedVariables false
namespace Go.Pv.Soil
set_option linter.unusedVariables false
theorem reg_names {l : List Reg} (h : l.Pairwise fun x y => x.name ≠ y.name) {i : Nat} (hi : i < l.length) : ∀ x ∈ l.take i, x.name ≠ l[i].name := fun x hx => by
  obtain ⟨j, hj, rfl⟩ := List.mem_iff_getElem.1 hx
  rw [List.length_take] at hj
  rw [List.getElem_take]
  exact List.pairwise_iff_getElem.1 h j i (by omega) hi (by omega)
theorem h_Check (c : Chan) (hc : OkChan c) : Contract Tryz.prog 44 [.agg (encChan c)] (.ret (.int .i64 0)) := by
  have h1 := h_named c.name
  rw [hc.nm] at h1
  have h2 := h_checkAxis c hc
  have hov := hc.ov
  have hbf := hc.bf
  have hrl := hc.rl
  refine contract_of mix Tryz.func44 rfl rfl (by rw [Tryz.ntmps44]; exact Nat.le_of_ble_eq_true rfl) ?_; rw [Tryz.results44, Tryz.ntmps44]; simp only [argsE, Nat.reduceAdd]
  repeat' first
           | (with_reducible apply go_op)
           | (with_reducible apply go_next)
           | ((with_reducible (show evOp _ _ _ _ _ _)); first
             | ((with_reducible (show evOp _ (.move _) _ _ _ _)) ; first | ((with_reducible apply go_mv_int); rfl; rfl) | ((with_reducible apply go_mv_bool); rfl; rfl))
             | ((with_reducible apply go_as))
             | ((with_reducible (show evOp _ (.load _ _) _ _ _ _)) ; first | ((with_reducible apply go_ld_agg); rfl; rfl; rfl; rfl) | ((with_reducible apply go_load_own); rfl; rfl; rfl; rfl))
             | (((with_reducible apply go_fieldAddr_own); rfl; rfl; rfl))
             | (((with_reducible apply go_cmp); rfl; rfl; rfl; rfl))
             | ((with_reducible (show evOp _ (.call _) _ _ _ _)) ; first | ((with_reducible apply go_len); rfl; rfl) | ((with_reducible apply go_fn_bool); rfl; (exact h1); rfl) | ((with_reducible apply go_fn_bool); rfl; (exact h_outside _ _ _); rfl) | ((with_reducible apply go_fn_int); rfl; (exact h2); rfl))
             | (((with_reducible apply go_not); rfl; rfl))
             | (((with_reducible apply go_pick); rfl; rfl; rfl))
             | (((with_reducible apply go_bx_agg); rfl; rfl; (exact Nat.le_of_ble_eq_true rfl); rfl; rfl)))
           | ((with_reducible (show evOps _ _ _ _ _ _)); first
             | (with_reducible apply go_nil)
             | ((with_reducible apply go_run); rfl; rfl)
             | ((with_reducible apply go_pass); rfl; rfl; rfl)
             | (((with_reducible apply go_guard); rfl) <;> (intro h; simp only [h, Bool.not_true, Bool.not_false]; (try with_reducible (refine ⟨rfl, ?_⟩)); try simp only [decide_eq_true_eq, decide_eq_false_iff_not, Bool.not_eq_true', Bool.not_eq_false', Bool.not_true, Bool.not_false] at h; try exact absurd trivial h)))
           | ((with_reducible (show evG _ _ _ _ _)); first
             | (with_reducible apply go_seq)
             | (with_reducible apply go_region)
             | ((with_reducible apply go_cond_t); rfl; rfl)
             | ((with_reducible apply go_cond_f); rfl; rfl)
             | (((with_reducible apply go_cond); rfl) <;> (intro h; simp only [h]; try simp only [decide_eq_true_eq, decide_eq_false_iff_not, Bool.not_eq_true', Bool.not_eq_false', Bool.not_true, Bool.not_false] at h; try exact absurd trivial h))
             | (with_reducible apply go_ret)
             | (with_reducible apply go_skipc)
             | (with_reducible apply go_block))
           | (with_reducible apply go_kseq)
           | (with_reducible apply go_kseq_ret)
           | ((with_reducible apply end_int); rfl)
  all_goals try (exfalso; omega)
  refine go_count c.regions.length (fun i => ⟨[(31, .int .i64 i), (29, .sl (c.regions.map encReg)), (30, .int .i64 c.regions.length), (1, .op 0 0 0)], [(0, ⟨5, true, [encChan c]⟩)], 32, 46⟩) (fun i => True) (entails_eq (nx := 32) (k := 0) (ns := []) (ks := [31, 29, 30, 1]) [(0, 0)] rfl (by simp) (by kernel_rfl)) trivial ?_
  intro i hi _
  by_cases hlt : i < c.regions.length
  · have hr := hc.rok c.regions[i] (List.getElem_mem _)
    have hcr := h_checkRegion c.regions[i] (c.regions.take i) (by rw [List.length_take]; omega) hr.1 (reg_names hc.rd hlt) hr.2.1 hr.2.2
    repeat' first
           | (with_reducible apply go_op)
           | (with_reducible apply go_next)
           | ((with_reducible (show evOp _ _ _ _ _ _)); first
             | (((with_reducible apply go_mv_int); rfl; rfl))
             | ((with_reducible apply go_as))
             | ((with_reducible (show evOp _ (.load _ _) _ _ _ _)) ; first | ((with_reducible apply go_ld_ptr); rfl; rfl; rfl) | ((with_reducible apply go_ld_agg); rfl; rfl; rfl; rfl) | ((with_reducible apply go_load_own); rfl; rfl; rfl; rfl))
             | (((with_reducible apply go_fieldAddr_own); rfl; rfl; rfl))
             | (((with_reducible apply go_index_nat); rfl; rfl; (with_reducible rfl); (intro; rfl); rfl; omega; (intro hlt)))
             | ((with_reducible (show evOp _ (.binOp _ _ _ _ _) _ _ _ _)) ; first | ((with_reducible apply go_cmp); rfl; rfl; rfl; rfl) | ((with_reducible apply go_add); rfl; rfl; rfl; omega))
             | (((with_reducible apply go_fn_int); rfl; (exact hcr); rfl))
             | (((with_reducible apply go_st_agg); rfl; rfl; rfl; rfl; rfl; rfl; rfl))
             | (((with_reducible apply go_take_sl); rfl; rfl; (intro; rfl); rfl; omega))
             | (((with_reducible apply go_alloc); rfl; rfl; rfl)))
           | ((with_reducible (show evOps _ _ _ _ _ _)); first
             | (with_reducible apply go_nil)
             | ((with_reducible apply go_pre); rfl)
             | (with_reducible apply go_pre_nil)
             | ((with_reducible apply go_suf); rfl)
             | (with_reducible apply go_suf_nil))
           | ((with_reducible (show evG _ _ _ _ _)); first
             | (with_reducible apply go_seq)
             | (with_reducible apply go_region)
             | ((with_reducible apply go_cond_f); rfl; rfl)
             | (((with_reducible apply go_cond); rfl) <;> (intro h; simp only [h]; try simp only [decide_eq_true_eq, decide_eq_false_iff_not, Bool.not_eq_true', Bool.not_eq_false', Bool.not_true, Bool.not_false] at h; try exact absurd trivial h))
             | ((with_reducible apply go_order); kernel_rfl; rfl)
             | (with_reducible apply go_ret)
             | (with_reducible apply go_skipc)
             | (with_reducible apply go_block)
             | (with_reducible apply go_exit))
           | (with_reducible apply go_kseq)
           | (with_reducible apply go_ksuf)
           | (with_reducible apply go_kblock)
           | (with_reducible apply go_kblock_exit)
           | (with_reducible apply go_kseq_exit)
           | ((with_reducible apply end_int); rfl)
           | (with_reducible rfl)
    all_goals first
      | exact absurd hlt (by omega)
      | exact ⟨by omega, trivial, entails_eq (nx := 32) (k := 0) (ns := []) (ks := [31, 29, 30, 1]) [(0, 0)] rfl (by simp) (by kernel_rfl)⟩
      | trace_state
  · repeat' first
           | (with_reducible apply go_op)
           | (with_reducible apply go_next)
           | ((with_reducible (show evOp _ _ _ _ _ _)); first
             | (((with_reducible apply go_mv_int); rfl; rfl))
             | ((with_reducible apply go_as))
             | ((with_reducible (show evOp _ (.load _ _) _ _ _ _)) ; first | ((with_reducible apply go_ld_ptr); rfl; rfl; rfl) | ((with_reducible apply go_ld_agg); rfl; rfl; rfl; rfl) | ((with_reducible apply go_load_own); rfl; rfl; rfl; rfl))
             | (((with_reducible apply go_fieldAddr_own); rfl; rfl; rfl))
             | (((with_reducible apply go_index_nat); rfl; rfl; (with_reducible rfl); (intro; rfl); rfl; omega; (intro hlt)))
             | (((with_reducible apply go_cmp); rfl; rfl; rfl; rfl))
             | (((with_reducible apply go_st_agg); rfl; rfl; rfl; rfl; rfl; rfl; rfl))
             | (((with_reducible apply go_take_sl); rfl; rfl; (intro; rfl); rfl; omega))
             | (((with_reducible apply go_alloc); rfl; rfl; rfl)))
           | ((with_reducible (show evOps _ _ _ _ _ _)); first
             | (with_reducible apply go_nil)
             | ((with_reducible apply go_pre); rfl))
           | ((with_reducible (show evG _ _ _ _ _)); first
             | (with_reducible apply go_seq)
             | (with_reducible apply go_region)
             | (((with_reducible apply go_cond); rfl) <;> (intro h; simp only [h]; try simp only [decide_eq_true_eq, decide_eq_false_iff_not, Bool.not_eq_true', Bool.not_eq_false', Bool.not_true, Bool.not_false] at h; try exact absurd trivial h))
             | ((with_reducible apply go_order); kernel_rfl; rfl)
             | (with_reducible apply go_ret)
             | (with_reducible apply go_skipc)
             | (with_reducible apply go_block)
             | (with_reducible apply go_exit))
           | (with_reducible apply go_kseq)
           | (with_reducible apply go_kblock_exit)
           | (with_reducible apply go_kseq_exit)
           | ((with_reducible apply end_int); rfl)
           | (with_reducible rfl)
    all_goals first
      | exact absurd hlt (by omega)
      | rfl
      | trace_state
end Go.Pv.Soil

open Go Go.Proofs Go.Pv
set_option maxHeartbeats 4000000
set_option maxRecDepth 100000
set_option linter.unusedVariables false
namespace Go.Pv.Soil
set_option linter.unusedVariables false
def dotD (a b : Axp) (p : Geo.Pt) : Int := (b.x - a.x) * (p.x - a.x) + (b.y - a.y) * (p.y - a.y)
def dotS (a b : Axp) : Int := (b.x - a.x) * (b.x - a.x) + (b.y - a.y) * (b.y - a.y)
theorem h_dot (c : Chan) (hc : OkChan c) (k : Nat) (hk : k + 1 < c.axis.length) (p : Geo.Pt) (hp : (-1000000 ≤ p.x ∧ p.x ≤ 1000000) ∧ (-1000000 ≤ p.y ∧ p.y ≤ 1000000)) :
    Contract Tryz.prog 83 [.agg (encChan c), .int .i64 k, .agg (Geo.encPt p)] (.ret (.tup [.int .i64 (dotD c.axis[k] c.axis[k + 1] p), .int .i64 (dotS c.axis[k] c.axis[k + 1])])) := by
  have ej : ((k : Int) + 1).toNat = k + 1 := by omega
  obtain ⟨j, hj, hjl⟩ : ∃ j, j = ((k : Int) + 1).toNat ∧ j < c.axis.length := ⟨_, rfl, by omega⟩
  have er : c.axis[k + 1] = c.axis[j] := by simp only [hj, ej]
  rw [er]
  subst hj
  have ha := of_decide_eq_true (hc.axp c.axis[k] (List.getElem_mem _))
  have hb := of_decide_eq_true (hc.axp (c.axis[((k : Int) + 1).toNat]) (List.getElem_mem _))
  have m1 := Geo.mul4 (u := c.axis[((k : Int) + 1).toNat].x - c.axis[k].x) (v := p.x - c.axis[k].x) (by omega) (by omega)
  have m2 := Geo.mul4 (u := c.axis[((k : Int) + 1).toNat].y - c.axis[k].y) (v := p.y - c.axis[k].y) (by omega) (by omega)
  have m3 := Geo.mul4 (u := c.axis[((k : Int) + 1).toNat].x - c.axis[k].x) (v := c.axis[((k : Int) + 1).toNat].x - c.axis[k].x) (by omega) (by omega)
  have m4 := Geo.mul4 (u := c.axis[((k : Int) + 1).toNat].y - c.axis[k].y) (v := c.axis[((k : Int) + 1).toNat].y - c.axis[k].y) (by omega) (by omega)
  have hl := hc.len
  refine contract_of mix Tryz.func83 rfl rfl (by rw [Tryz.ntmps83]; exact Nat.le_of_ble_eq_true rfl) ?_; rw [Tryz.results83, Tryz.ntmps83]; simp only [argsE, Nat.reduceAdd]
  repeat' first
           | (with_reducible apply go_op)
           | (with_reducible apply go_next)
           | ((with_reducible (show evOp _ _ _ _ _ _)); first
             | (((with_reducible apply go_mv_int); rfl; rfl))
             | ((with_reducible apply go_as))
             | ((with_reducible (show evOp _ (.load _ _) _ _ _ _)) ; first | ((with_reducible apply go_ld_ptr); rfl; rfl; rfl) | ((with_reducible apply go_load_own); rfl; rfl; rfl; rfl))
             | (((with_reducible apply go_fieldAddr_own); rfl; rfl; rfl))
             | ((with_reducible (show evOp _ (.indexAddr _ _ _) _ _ _ _)) ; first | ((with_reducible apply go_index_nat); rfl; rfl; (with_reducible rfl); (intro; rfl); rfl; omega; (intro hlt)) | ((with_reducible apply go_index); rfl; rfl; (intro; rfl); rfl; omega; intro hlt))
             | ((with_reducible (show evOp _ (.binOp _ _ _ _ _) _ _ _ _)) ; first | ((with_reducible apply go_add); rfl; rfl; rfl; omega) | ((with_reducible apply go_sub); rfl; rfl; rfl; omega) | ((with_reducible apply go_mul); rfl; rfl; rfl; omega))
             | (((with_reducible apply go_st_agg); rfl; rfl; rfl; rfl; rfl; rfl; rfl))
             | (((with_reducible apply go_bx_agg); rfl; rfl; (exact Nat.le_of_ble_eq_true rfl); rfl; rfl))
             | (((with_reducible apply go_alloc); rfl; rfl; rfl)))
           | ((with_reducible (show evOps _ _ _ _ _ _)); first
             | (with_reducible apply go_nil)
             | ((with_reducible apply go_pre); rfl)
             | (with_reducible apply go_pre_nil)
             | ((with_reducible apply go_suf); rfl)
             | (with_reducible apply go_suf_nil)
             | (with_reducible apply go_take)
             | (with_reducible apply go_take0))
           | ((with_reducible (show evG _ _ _ _ _)); first
             | (with_reducible apply go_seq)
             | (with_reducible apply go_region)
             | ((with_reducible apply (go_drawL 13 [[5, 6, 7, 8, 9, 10], []])); decide +kernel; rfl)
             | ((with_reducible apply go_order); kernel_rfl; rfl)
             | (with_reducible apply go_ret))
           | (with_reducible apply go_klined)
           | (with_reducible apply go_line_drop)
           | (with_reducible apply go_line_drop0)
           | (with_reducible apply go_line)
           | (with_reducible apply go_line_nil)
           | (with_reducible apply go_kln)
           | (with_reducible apply go_again_nil)
           | ((with_reducible apply go_again); rfl; (intro id'))
           | ((with_reducible apply go_kagain); rfl)
           | (with_reducible apply go_kseq)
           | (with_reducible apply go_ksuf)
           | ((with_reducible apply end_t2); rfl; rfl; rfl; rfl)
  all_goals first | rfl | trace_state
end Go.Pv.Soil

open Go Go.Proofs Go.Pv
set_option maxHeartbeats 4000000
set_option maxRecDepth 100000
set_option linter.unusedVariables false
namespace Go.Pv.Soil
set_option linter.unusedVariables false
structure XPart where
  offset : Int
  half : Int
  bottom : Int
  run : Int
def encXP (x : XPart) : List D := [.int .i64 x.offset, .int .i64 x.half, .int .i64 x.bottom, .int .i64 x.run]
def levelV (x : XPart) : Int := if x.offset ≤ x.half then x.bottom else if x.run = 0 then 0 else x.bottom + (x.offset - x.half) / x.run
def levelB (x : XPart) : Bool := if x.offset ≤ x.half then true else if x.run = 0 then false else decide (x.bottom + (x.offset - x.half) / x.run ≤ 20000)
def xpartOK (x : XPart) : Prop := (0 ≤ x.offset ∧ x.offset ≤ 10000000000000) ∧ (0 ≤ x.half ∧ x.half ≤ 100000) ∧ (-20000 ≤ x.bottom ∧ x.bottom ≤ 20000) ∧ (0 ≤ x.run ∧ x.run ≤ 1000)
theorem h_level (x : XPart) (hx : xpartOK x) : Contract Tryz.prog 54 [.agg (encXP x)] (.ret (.tup [.int .i64 (levelV x), .bool (levelB x)])) := by
  obtain ⟨h1, h2, h3, h4⟩ := hx
  have hd : ¬ x.offset ≤ x.half → 0 < x.run → 0 ≤ (x.offset - x.half) / x.run ∧ (x.offset - x.half) / x.run ≤ x.offset - x.half := fun h hr => ⟨Int.ediv_nonneg (by omega) (by omega), Int.ediv_le_self _ (by omega)⟩
  unfold levelV levelB
  refine contract_of mix Tryz.func54 rfl rfl (by rw [Tryz.ntmps54]; exact Nat.le_of_ble_eq_true rfl) ?_; rw [Tryz.results54, Tryz.ntmps54]; simp only [argsE, Nat.reduceAdd]
  have hr : ¬ x.offset ≤ x.half → ¬ x.run = 0 → 0 ≤ (x.offset - x.half) / x.run ∧ (x.offset - x.half) / x.run ≤ x.offset - x.half := fun h h' => hd h (by omega)
  repeat' first
           | (with_reducible apply go_op)
           | (with_reducible apply go_next)
           | ((with_reducible (show evOp _ _ _ _ _ _)); first
             | ((with_reducible (show evOp _ (.move _) _ _ _ _)) ; first | ((with_reducible apply go_mv_int); rfl; rfl) | ((with_reducible apply go_mv_bool); rfl; rfl))
             | ((with_reducible apply go_as))
             | (((with_reducible apply go_load_own); rfl; rfl; rfl; rfl))
             | (((with_reducible apply go_fieldAddr_own); rfl; rfl; rfl))
             | ((with_reducible (show evOp _ (.binOp _ _ _ _ _) _ _ _ _)) ; first | ((with_reducible apply go_cmp); rfl; rfl; rfl; rfl) | ((with_reducible apply go_add); rfl; rfl; rfl; omega) | ((with_reducible apply go_sub); rfl; rfl; rfl; omega) | ((with_reducible apply go_quo_pos); rfl; rfl; rfl; omega))
             | (((with_reducible apply go_bx_agg); rfl; rfl; (exact Nat.le_of_ble_eq_true rfl); rfl; rfl)))
           | ((with_reducible (show evOps _ _ _ _ _ _)); first
             | (with_reducible apply go_nil)
             | ((with_reducible apply go_pre); rfl)
             | (with_reducible apply go_pre_nil)
             | ((with_reducible apply go_suf); rfl)
             | (with_reducible apply go_suf_nil))
           | ((with_reducible (show evG _ _ _ _ _)); first
             | (with_reducible apply go_seq)
             | (with_reducible apply go_region)
             | (((with_reducible apply go_cond); rfl) <;> (intro h; simp only [h]; try simp only [decide_eq_true_eq, decide_eq_false_iff_not, Bool.not_eq_true', Bool.not_eq_false', Bool.not_true, Bool.not_false] at h; try exact absurd trivial h))
             | ((with_reducible apply go_order); kernel_rfl; rfl)
             | (with_reducible apply go_ret)
             | (with_reducible apply go_skipc))
           | (with_reducible apply go_kseq)
           | (with_reducible apply go_ksuf)
           | (with_reducible apply go_kseq_ret)
           | ((with_reducible apply end_t2); rfl; rfl; rfl; rfl)
  · rw [if_pos h, if_pos h]; rfl
  · rw [if_neg (by assumption), if_pos h, if_neg (by assumption), if_pos h]; rfl
  · rw [if_neg (by assumption), if_neg h, if_neg (by assumption), if_neg h]; rfl
end Go.Pv.Soil

open Go Go.Proofs Go.Pv
set_option maxHeartbeats 1000000
set_option maxRecDepth 100000
set_option linter.unusedSimpArgs false
set_option linter.unusedVariables false
namespace Go.Pv.Soil

theorem sq_nonneg' (a : Int) : 0 ≤ a * a := by
  rw [← Int.natAbs_mul_self (a := a)]; exact Int.natCast_nonneg _

/-- The squared distance of two places, 0 if one is out of range. -/
def squareE (a b : Pt) : Int := if ptOK a = true ∧ ptOK b = true then sqE a b else 0
theorem squareE_bd (a b : Pt) : 0 ≤ squareE a b ∧ squareE a b ≤ 8000000000000 := by
  unfold squareE
  split
  · rename_i h
    have h1 := ptOK_bd h.1
    have h2 := ptOK_bd h.2
    have m1 := prod4 (a := b.x - a.x) (b := b.x - a.x) (by omega) (by omega)
    have m2 := prod4 (a := b.y - a.y) (b := b.y - a.y) (by omega) (by omega)
    have n1 : 0 ≤ (b.x - a.x) * (b.x - a.x) := sq_nonneg' _
    have n2 : 0 ≤ (b.y - a.y) * (b.y - a.y) := sq_nonneg' _
    unfold sqE
    omega
  · omega

/-- The first of the least of n numbers: its place and itself. -/
def bestE (d : Nat → Int) : Nat → Nat × Int
  | 0 => (0, 0)
  | i + 1 => if i = 0 ∨ d i < (bestE d i).2 then (i, d i) else bestE d i

theorem bestE_lt {d : Nat → Int} : ∀ {n : Nat}, 0 < n → (bestE d n).1 < n
  | i + 1, _ => by
    unfold bestE
    split
    · simp
    · rename_i h
      have := bestE_lt (d := d) (n := i) (by omega)
      omega
theorem bestE_congr {d d' : Nat → Int} : ∀ {n : Nat}, (∀ i, i < n → d i = d' i) → bestE d n = bestE d' n
  | 0, _ => rfl
  | n + 1, h => by unfold bestE; rw [bestE_congr fun i hi => h i (by omega), h n (by omega)]

def borPt (b : Boring) : Pt := ⟨b.x, b.y⟩
def nearD (g : Ground) (p : Pt) (i : Nat) : Int := match g.borings[i]? with
  | some b => squareE (borPt b) p
  | none => 0
def nearE (g : Ground) (p : Pt) : Nat := (bestE (nearD g p) g.borings.length).1

theorem bestE_step {d : Nat → Int} {i : Nat} (h : i = 0 ∨ d i < (bestE d i).2) : bestE d (i + 1) = (i, d i) := by
  show (if _ then _ else _) = _
  rw [if_pos h]
theorem bestE_keep {d : Nat → Int} {i : Nat} (h : ¬ (i = 0 ∨ d i < (bestE d i).2)) : bestE d (i + 1) = bestE d i := by
  show (if _ then _ else _) = _
  rw [if_neg h]

def topAt (b : Boring) (level : Int) (i : Nat) : Bool := match b.layers[i]? with
  | some l => decide (level ≤ l.top)
  | none => false
/-- The last of n numbers that is so, or 0. -/
def lastE (p : Nat → Bool) : Nat → Nat
  | 0 => 0
  | n + 1 => if p n = true then n else lastE p n
def layerE (b : Boring) (level : Int) : Nat := lastE (topAt b level) b.layers.length

theorem lastE_at {p : Nat → Bool} {i : Nat} : ∀ {n : Nat}, i < n → p i = true → (∀ j, i < j → j < n → p j = false) → lastE p n = i
  | n + 1, hi, h, hb => by
    unfold lastE
    by_cases he : i = n
    · subst he; rw [if_pos h]
    · rw [if_neg (by rw [hb n (by omega) (by omega)]; decide)]
      exact lastE_at (by omega) h fun j h1 h2 => hb j h1 (by omega)
theorem lastE_zero {p : Nat → Bool} : ∀ {n : Nat}, (∀ j, 0 < j → j < n → p j = false) → lastE p n = 0
  | 0, _ => rfl
  | n + 1, hb => by
    unfold lastE
    by_cases he : n = 0
    · subst he; split <;> rfl
    · rw [if_neg (by rw [hb n (by omega) (by omega)]; decide)]
      exact lastE_zero fun j h1 h2 => hb j h1 (by omega)
theorem lastE_lt {p : Nat → Bool} : ∀ {n : Nat}, 0 < n → lastE p n < n
  | n + 1, _ => by
    unfold lastE
    split
    · omega
    · by_cases h : n = 0
      · subst h; exact Nat.zero_lt_succ _
      · have := lastE_lt (p := p) (n := n) (by omega); omega

theorem topAt_at {b : Boring} {level : Int} {j : Nat} (hj : j < b.layers.length) : topAt b level j = decide (level ≤ b.layers[j].top) := by
  simp only [topAt, List.getElem?_eq_getElem hj]

/-- The soil at a place and level, and the error. -/
def soilAt (g : Ground) (p : Pt) (level : Int) : ByteArray := match g.borings[nearE g p]? with
  | some b => (match b.layers[layerE b level]? with
    | some l => l.soil
    | none => .empty)
  | none => .empty
def atE (g : Ground) (p : Pt) (level : Int) : ByteArray × Int := if askedE g p [level] ≠ 0 then (.empty, askedE g p [level]) else (soilAt g p level, 0)
def encSE (x : ByteArray × Int) : D := .tup [.str x.1, .int .i64 x.2]

theorem groundE_ok {g : Ground} (h : groundE g = 0) : soilsE g.soils = 0 ∧ 0 < g.borings.length ∧ g.borings.length ≤ 20 ∧ eachE (·.name) (borE g.soils) g.borings = 0 := by
  unfold groundE at h
  split at h
  · omega
  · rename_i h1
    split at h
    · omega
    · split at h
      · omega
      · exact ⟨by simpa using h1, by omega, by omega, h⟩

theorem firstE_all {n : Nat} {f : Nat → Int} (h : firstE n f = 0) : ∀ j, j < n → f j = 0 := by
  induction n generalizing f with
  | zero => intro j hj; omega
  | succ n ih =>
    simp only [firstE] at h
    split at h
    · rename_i h0
      intro j hj
      cases j with
      | zero => exact h0
      | succ j => exact ih h j (by omega)
    · rename_i h0; exact (h0 h).elim

theorem eachE_all {α : Type} {nm : α → ByteArray} {er : α → Int} {l : List α} (h : eachE nm er l = 0) {i : Nat} (hi : i < l.length) : nameOK (nm l[i]) = true ∧ er l[i] = 0 := by
  have := firstE_all h i hi
  simp only [stepE, List.getElem?_eq_getElem hi] at this
  split at this
  · cases this
  · rename_i h1
    split at this
    · cases this
    · exact ⟨by simpa using h1, this⟩
end Go.Pv.Soil

open Go Go.Proofs Go.Pv
set_option maxHeartbeats 1000000
set_option maxRecDepth 100000
set_option linter.unusedSimpArgs false
set_option linter.unusedVariables false
namespace Go.Pv.Soil

/-- A boring that is in order. -/
structure OkBoring (l : List Soil) (b : Boring) : Prop where
  pt : ptOK (borPt b) = true
  len : 0 < b.layers.length ∧ b.layers.length ≤ 12
  lay : ∀ i (hi : i < b.layers.length), lvOK b.layers[i].top = true ∧ 0 ≤ ofName l b.layers[i].soil ∧ ∀ (h : 0 < i), b.layers[i].top < (b.layers[i - 1]'(by omega)).top

theorem borE_ok {l : List Soil} {b : Boring} (h : borE l b = 0) : OkBoring l b := by
  unfold borE at h
  split at h
  · omega
  · rename_i h1
    split at h
    · omega
    · split at h
      · omega
      · refine ⟨by simpa [borPt] using h1, by omega, fun i hi => ?_⟩
        have := firstE_all h i hi
        rw [layE_is hi] at this
        split at this
        · omega
        · rename_i h2
          split at this
          · omega
          · rename_i h3
            split at this
            · omega
            · rename_i h4
              refine ⟨by simpa using h2, by omega, fun h0 => ?_⟩
              rw [List.getElem?_eq_getElem (by omega : i - 1 < b.layers.length)] at h3
              simp only [Option.map_some, Option.getD_some, not_and] at h3
              have := h3 h0
              omega

structure OkG (g : Ground) : Prop where
  soils : soilsE g.soils = 0
  n : 0 < g.borings.length ∧ g.borings.length ≤ 20
  bor : ∀ i (hi : i < g.borings.length), OkBoring g.soils g.borings[i]

theorem okG {g : Ground} (h : groundE g = 0) : OkG g := by
  obtain ⟨h1, h2, h3, h4⟩ := groundE_ok h
  exact ⟨h1, ⟨h2, h3⟩, fun i hi => borE_ok (eachE_all h4 hi).2⟩

theorem near_lt {g : Ground} {p : Pt} (h : 0 < g.borings.length) : nearE g p < g.borings.length := bestE_lt h

theorem asked0 {g : Ground} {p : Pt} {l : List Int} (h : askedE g p l = 0) : groundE g = 0 ∧ ptOK p = true ∧ ∀ n ∈ l, lvOK n = true := by
  unfold askedE at h
  split at h
  · omega
  · rename_i h1
    split at h
    · omega
    · rename_i h2
      simp only [not_or, Bool.not_eq_false, Bool.not_eq_true, List.any_eq_false] at h2
      exact ⟨by simpa using h1, h2.1, fun n hn => by simpa using h2.2 n hn⟩

theorem soilAt_eq {g : Ground} {p : Pt} {level : Int} (h : OkG g) : ∃ (hn : nearE g p < g.borings.length) (hl : layerE g.borings[nearE g p] level < g.borings[nearE g p].layers.length), soilAt g p level = (g.borings[nearE g p].layers[layerE g.borings[nearE g p] level]).soil := by
  have hn := near_lt (p := p) h.n.1
  have hl : layerE g.borings[nearE g p] level < g.borings[nearE g p].layers.length := lastE_lt (h.bor _ hn).len.1
  refine ⟨hn, hl, ?_⟩
  simp only [soilAt, List.getElem?_eq_getElem hn, List.getElem?_eq_getElem hl]

def nearRE (g : Ground) (p : Pt) : Int × Int := if askedE g p [] ≠ 0 then (0, askedE g p []) else (nearE g p, 0)
def enc2 (x : Int × Int) : D := .tup [.int .i64 x.1, .int .i64 x.2]
end Go.Pv.Soil

open Go Go.Proofs Go.Pv
set_option maxHeartbeats 2000000
set_option maxRecDepth 100000
set_option linter.unusedSimpArgs false
set_option linter.unusedVariables false
namespace Go.Pv.Soil

theorem c165v (l : List Int) (hl : l.length < 1000000000000) (g : FuncId) (ys : List D) (hst : Stab ys) (hpu : pureL ys = true) (p : Int → Bool) (hf : ∀ x ∈ l, Contract Tryz.prog g (.int .i64 x :: ys) (.ret (.bool (p x)))) :
    Contract Tryz.prog 78 [.sl (l.map encInt), .clo (.func g) [] ys] (.ret (.int .i64 (idxOf p l))) := by
  refine contract_of mix Tryz.func78 rfl rfl (by rw [Tryz.ntmps78]; exact Nat.le_of_ble_eq_true rfl) ?_; rw [Tryz.results78, Tryz.ntmps78]; simp only [argsE, Nat.reduceAdd]
  repeat' first
           | (with_reducible apply go_op)
           | (with_reducible apply go_next)
           | ((with_reducible (show evOp _ _ _ _ _ _)); first
             | ((with_reducible (show evOp _ (.move _) _ _ _ _)) ; first | ((with_reducible apply go_mv_int); rfl; rfl) | ((with_reducible apply go_mv_sl); rfl; rfl))
             | ((with_reducible apply go_as))
             | (((with_reducible apply go_len); rfl; rfl)))
           | ((with_reducible (show evOps _ _ _ _ _ _)); first
             | (with_reducible apply go_nil))
           | ((with_reducible (show evG _ _ _ _ _)); first
             | (with_reducible apply go_seq)
             | (with_reducible apply go_region)
             | (with_reducible apply go_block))
           | (with_reducible apply go_kseq)
  have e8 : ∀ i : Nat, (⟨[(8, .int .i64 i), (7, .int .i64 l.length), (0, .sl (l.map encInt)), (1, .clo (.func g) [] (renL [] ys))], [], 0, 19⟩ : St) = ⟨[(8, .int .i64 i), (7, .int .i64 l.length), (0, .sl (l.map encInt)), (1, .clo (.func g) [] ys)], [], 0, 19⟩ := fun i => by rw [renL_pure hpu]
  refine go_count l.length (fun i => ⟨[(8, .int .i64 i), (7, .int .i64 l.length), (0, .sl (l.map encInt)), (1, .clo (.func g) [] ys)], [], 0, 19⟩) (fun i => ∀ j (hj : j < i) (hj' : j < l.length), p l[j] = false) (entails_eq (k := 0) (ns := []) (ks := [8, 7, 0, 1]) [] rfl (by simp) (e8 _)) (by omega) ?_
  intro i hi hC
  repeat' first
           | (with_reducible apply go_op)
           | (with_reducible apply go_next)
           | ((with_reducible (show evOp _ _ _ _ _ _)); first
             | ((with_reducible (show evOp _ (.move _) _ _ _ _)) ; first | ((with_reducible apply go_mv_int); rfl; rfl) | ((with_reducible apply go_mv_sl); rfl; rfl) | ((with_reducible apply go_mv_clo); rfl; rfl))
             | ((with_reducible apply go_as))
             | (((with_reducible apply go_load); rfl; rfl; rfl))
             | (((with_reducible apply go_index_nat); rfl; rfl; (with_reducible rfl); (intro; rfl); rfl; omega; (intro hlt)))
             | (((with_reducible apply go_cmp); rfl; rfl; rfl; rfl)))
           | ((with_reducible (show evOps _ _ _ _ _ _)); first
             | (with_reducible apply go_nil))
           | ((with_reducible (show evG _ _ _ _ _)); first
             | (with_reducible apply go_seq)
             | (with_reducible apply go_region)
             | (((with_reducible apply go_cond); rfl) <;> (intro h; simp only [h]; try simp only [decide_eq_true_eq, decide_eq_false_iff_not, Bool.not_eq_true', Bool.not_eq_false', Bool.not_true, Bool.not_false] at h; try exact absurd trivial h))
             | (with_reducible apply go_ret)
             | (with_reducible apply go_skipc)
             | (with_reducible apply go_block)
             | (with_reducible apply go_exit))
           | (with_reducible apply go_kseq)
           | (with_reducible apply go_kblock_exit)
           | (with_reducible apply go_kseq_exit)
           | ((with_reducible apply end_int); rfl)
  · refine go_clo_bool rfl rfl hst (hf l[i] (List.getElem_mem _)) rfl ?_
    repeat' first
           | (with_reducible apply go_op)
           | (with_reducible apply go_next)
           | ((with_reducible (show evOp _ _ _ _ _ _)); first
             | (((with_reducible apply go_mv_int); rfl; rfl))
             | ((with_reducible apply go_as))
             | (((with_reducible apply go_add); rfl; rfl; rfl; omega)))
           | ((with_reducible (show evOps _ _ _ _ _ _)); first
             | (with_reducible apply go_nil))
           | ((with_reducible (show evG _ _ _ _ _)); first
             | (with_reducible apply go_seq)
             | (with_reducible apply go_region)
             | (((with_reducible apply go_cond); rfl) <;> (intro h; simp only [h]; try simp only [decide_eq_true_eq, decide_eq_false_iff_not, Bool.not_eq_true', Bool.not_eq_false', Bool.not_true, Bool.not_false] at h; try exact absurd trivial h))
             | (with_reducible apply go_ret)
             | (with_reducible apply go_skipc))
           | (with_reducible apply go_kseq)
           | (with_reducible apply go_kseq_ret)
           | (with_reducible apply go_kblock)
           | (with_reducible apply go_kblock_ret)
           | ((with_reducible apply end_int); rfl)
    · have h2 : i < l.length := by omega
      exact (idxOf_some h2 h fun j hj => hC j hj (by omega)).symm
    · have h2 : i < l.length := by omega
      refine ⟨by omega, fun j hj hj' => ?_, entails_eq (k := 0) (ns := []) (ks := [8, 7, 0, 1]) [] rfl (by simp) (e8 _)⟩
      rcases Nat.lt_succ_iff_lt_or_eq.1 hj with h' | rfl
      · exact hC j h' hj'
      · exact h
  · refine (idxOf_none fun x hx => ?_).symm
    obtain ⟨j, hj, rfl⟩ := List.mem_iff_getElem.1 hx
    exact hC j (by omega) hj


theorem c124v (l : List Int) (hl : l.length < 1000000000000) (g : FuncId) (ys : List D) (hst : Stab ys) (hpu : pureL ys = true) (p : Int → Bool) (hf : ∀ x ∈ l, Contract Tryz.prog g (.int .i64 x :: ys) (.ret (.bool (p x)))) :
    Contract Tryz.prog 61 [.sl (l.map encInt), .clo (.func g) [] ys] (.ret (.bool (l.any p))) := by
  refine contract_of mix Tryz.func61 rfl rfl (by rw [Tryz.ntmps61]; exact Nat.le_of_ble_eq_true rfl) ?_; rw [Tryz.results61, Tryz.ntmps61]; simp only [argsE, Nat.reduceAdd]
  repeat' first
           | (with_reducible apply go_op)
           | (with_reducible apply go_next)
           | ((with_reducible (show evOp _ _ _ _ _ _)); first
             | ((with_reducible (show evOp _ (.move _) _ _ _ _)) ; first | ((with_reducible apply go_mv_bool); rfl; rfl) | ((with_reducible apply go_mv_sl); rfl; rfl) | ((with_reducible apply go_mv_clo); rfl; rfl))
             | ((with_reducible apply go_as)))
           | ((with_reducible (show evOps _ _ _ _ _ _)); first
             | (with_reducible apply go_nil))
           | ((with_reducible (show evG _ _ _ _ _)); first
             | (with_reducible apply go_seq)
             | (with_reducible apply go_region))
           | (with_reducible apply go_kseq)
  refine go_fn_int (args' := [.sl (l.map encInt), .clo (.func g) [] ys]) ?_ (c165v l hl g ys hst hpu p hf) rfl ?_
  · have e := hst (lkH []) 45
    simp only [List.map_cons, List.map_nil, evalD, lkE, purL, pur, Option.bind_some, Option.map_some, Nat.reduceEqDiff, if_true, if_false, e]
  repeat' first
           | (with_reducible apply go_op)
           | (with_reducible apply go_next)
           | ((with_reducible (show evOp _ _ _ _ _ _)); first
             | (((with_reducible apply go_mv_bool); rfl; rfl))
             | ((with_reducible apply go_as))
             | (((with_reducible apply go_cmp); rfl; rfl; rfl; rfl)))
           | ((with_reducible (show evOps _ _ _ _ _ _)); first
             | (with_reducible apply go_nil))
           | ((with_reducible (show evG _ _ _ _ _)); first
             | (with_reducible apply go_ret))
           | (with_reducible apply go_kseq)
           | ((with_reducible apply end_bool); rfl)
  exact idxOf_ge

theorem c198 (n lo hi : Int) : Contract Tryz.prog 77 [.int .i64 n, .ptr [.int .i64 lo], .ptr [.int .i64 hi]] (.ret (.bool (decide (n < lo ∨ hi < n)))) := by
  refine contract_of mix Tryz.func77 rfl rfl (by rw [Tryz.ntmps77]; exact Nat.le_of_ble_eq_true rfl) ?_; rw [Tryz.results77, Tryz.ntmps77]; simp only [argsE, Nat.reduceAdd]
  repeat' first
           | (with_reducible apply go_op)
           | (with_reducible apply go_next)
           | ((with_reducible (show evOp _ _ _ _ _ _)); first
             | ((with_reducible (show evOp _ (.move _) _ _ _ _)) ; first | ((with_reducible apply go_mv_int); rfl; rfl) | ((with_reducible apply go_mv_bool); rfl; rfl))
             | ((with_reducible apply go_as))
             | (((with_reducible apply go_load); rfl; rfl; rfl))
             | (((with_reducible apply go_cmp); rfl; rfl; rfl; rfl))
             | (((with_reducible apply go_pick); rfl; rfl; rfl)))
           | ((with_reducible (show evOps _ _ _ _ _ _)); first
             | (with_reducible apply go_nil)
             | ((with_reducible apply go_run); rfl; rfl)
             | ((with_reducible apply go_pass); rfl; rfl; rfl)
             | (((with_reducible apply go_guard); rfl) <;> (intro h; simp only [h, Bool.not_true, Bool.not_false]; (try with_reducible (refine ⟨rfl, ?_⟩)); try simp only [decide_eq_true_eq, decide_eq_false_iff_not, Bool.not_eq_true', Bool.not_eq_false', Bool.not_true, Bool.not_false] at h; try exact absurd trivial h)))
           | ((with_reducible (show evG _ _ _ _ _)); first
             | (with_reducible apply go_seq)
             | (with_reducible apply go_region)
             | (with_reducible apply go_ret))
           | (with_reducible apply go_kseq)
           | ((with_reducible apply end_bool); rfl)
  · exact decide_eq_decide.2 (by omega)
  · exact (decide_eq_true (.inl h)).symm

def betw (lo hi : Int) (l : List Int) : Bool := !l.any fun n => decide (n < lo ∨ hi < n)
theorem c174 (lo hi : Int) (l : List Int) (hl : l.length < 1000000000000) : Contract Tryz.prog 60 [.int .i64 lo, .int .i64 hi, .sl (l.map encInt)] (.ret (.bool (betw lo hi l))) := by
  refine contract_of mix Tryz.func60 rfl rfl (by rw [Tryz.ntmps60]; exact Nat.le_of_ble_eq_true rfl) ?_; rw [Tryz.results60, Tryz.ntmps60]; simp only [argsE, Nat.reduceAdd]
  repeat' first
           | (with_reducible apply go_op)
           | (with_reducible apply go_next)
           | ((with_reducible (show evOp _ _ _ _ _ _)); first
             | ((with_reducible (show evOp _ (.move _) _ _ _ _)) ; first | ((with_reducible apply go_mv_bool); rfl; rfl) | ((with_reducible apply go_mv_sl); rfl; rfl))
             | ((with_reducible apply go_as))
             | (((with_reducible apply go_bx_int); rfl; rfl))
             | (((with_reducible apply go_fn2); rfl; rfl; rfl)))
           | ((with_reducible (show evOps _ _ _ _ _ _)); first
             | (with_reducible apply go_nil))
           | ((with_reducible (show evG _ _ _ _ _)); first
             | (with_reducible apply go_seq)
             | (with_reducible apply go_region))
           | (with_reducible apply go_kseq)
  refine go_fn_bool (args' := [.sl (l.map encInt), .clo (.func 77) [] [.ptr [.int .i64 lo], .ptr [.int .i64 hi]]]) rfl (c124v l hl 77 _ (fun _ _ => rfl) rfl (fun n => decide (n < lo ∨ hi < n)) fun x _ => c198 x lo hi) rfl ?_
  repeat' first
           | (with_reducible apply go_op)
           | (with_reducible apply go_next)
           | ((with_reducible (show evOp _ _ _ _ _ _)); first
             | (((with_reducible apply go_mv_bool); rfl; rfl))
             | ((with_reducible apply go_as))
             | (((with_reducible apply go_not); rfl; rfl)))
           | ((with_reducible (show evOps _ _ _ _ _ _)); first
             | (with_reducible apply go_nil))
           | ((with_reducible (show evG _ _ _ _ _)); first
             | (with_reducible apply go_ret))
           | (with_reducible apply go_kseq)
           | ((with_reducible apply end_bool); rfl)
  rfl

theorem betw1 (lo hi n : Int) : betw lo hi [n] = decide (lo ≤ n ∧ n ≤ hi) := by
  simp only [betw, List.any_cons, List.any_nil, Bool.or_false, ← decide_not]
  exact decide_eq_decide.2 (by omega)
theorem betw2 (lo hi n m : Int) : betw lo hi [n, m] = decide ((lo ≤ n ∧ n ≤ hi) ∧ (lo ≤ m ∧ m ≤ hi)) := by
  simp only [betw, List.any_cons, List.any_nil, Bool.or_false, Bool.not_or, ← decide_not, ← Bool.decide_and]
  exact decide_eq_decide.2 (by omega)
theorem c174' (lo hi n : Int) : Contract Tryz.prog 60 [.int .i64 lo, .int .i64 hi, .sl [[.int .i64 n]]] (.ret (.bool (decide (lo ≤ n ∧ n ≤ hi)))) := betw1 lo hi n ▸ c174 lo hi [n] (by simp)
theorem c174'' (lo hi n m : Int) : Contract Tryz.prog 60 [.int .i64 lo, .int .i64 hi, .sl [[.int .i64 n], [.int .i64 m]]] (.ret (.bool (decide ((lo ≤ n ∧ n ≤ hi) ∧ (lo ≤ m ∧ m ≤ hi))))) := betw2 lo hi n m ▸ c174 lo hi [n, m] (by simp)

theorem c180 (n : Int) : Contract Tryz.prog 63 [.int .i64 n] (.ret (.bool (lvOK n))) := by
  refine contract_of mix Tryz.func63 rfl rfl (by rw [Tryz.ntmps63]; exact Nat.le_of_ble_eq_true rfl) ?_; rw [Tryz.results63, Tryz.ntmps63]; simp only [argsE, Nat.reduceAdd]
  repeat' first
           | (with_reducible apply go_op)
           | (with_reducible apply go_next)
           | ((with_reducible (show evOp _ _ _ _ _ _)); first
             | ((with_reducible (show evOp _ (.move _) _ _ _ _)) ; first | ((with_reducible apply go_mv_int); rfl; rfl) | ((with_reducible apply go_mv_bool); rfl; rfl))
             | ((with_reducible apply go_as))
             | (((with_reducible apply go_fn_bool); rfl; (exact c174' _ _ _); rfl))
             | (((with_reducible apply go_bs1_int); rfl; rfl; rfl)))
           | ((with_reducible (show evOps _ _ _ _ _ _)); first
             | (with_reducible apply go_nil))
           | ((with_reducible (show evG _ _ _ _ _)); first
             | (with_reducible apply go_seq)
             | (with_reducible apply go_region)
             | (with_reducible apply go_ret))
           | (with_reducible apply go_kseq)
           | ((with_reducible apply end_bool); rfl)
  rfl

/-- A level that is neither one nor empty. -/
def badLv (n : Int) : Bool := decide (n ≠ 30000) && !lvOK n
theorem c179 (n : Int) : Contract Tryz.prog 62 [.int .i64 n] (.ret (.bool (badLv n))) := by
  refine contract_of mix Tryz.func62 rfl rfl (by rw [Tryz.ntmps62]; exact Nat.le_of_ble_eq_true rfl) ?_; rw [Tryz.results62, Tryz.ntmps62]; simp only [argsE, Nat.reduceAdd]
  repeat' first
           | (with_reducible apply go_op)
           | (with_reducible apply go_next)
           | ((with_reducible (show evOp _ _ _ _ _ _)); first
             | ((with_reducible (show evOp _ (.move _) _ _ _ _)) ; first | ((with_reducible apply go_mv_int); rfl; rfl) | ((with_reducible apply go_mv_bool); rfl; rfl))
             | ((with_reducible apply go_as))
             | (((with_reducible apply go_cmp); rfl; rfl; rfl; rfl))
             | (((with_reducible apply go_fn_bool); rfl; (exact c180 _); rfl))
             | (((with_reducible apply go_not); rfl; rfl))
             | (((with_reducible apply go_pick); rfl; rfl; rfl)))
           | ((with_reducible (show evOps _ _ _ _ _ _)); first
             | (with_reducible apply go_nil)
             | ((with_reducible apply go_run); rfl; rfl)
             | ((with_reducible apply go_pass); rfl; rfl; rfl)
             | (((with_reducible apply go_guard); rfl) <;> (intro h; simp only [h, Bool.not_true, Bool.not_false]; (try with_reducible (refine ⟨rfl, ?_⟩)); try simp only [decide_eq_true_eq, decide_eq_false_iff_not, Bool.not_eq_true', Bool.not_eq_false', Bool.not_true, Bool.not_false] at h; try exact absurd trivial h)))
           | ((with_reducible (show evG _ _ _ _ _)); first
             | (with_reducible apply go_seq)
             | (with_reducible apply go_region)
             | (with_reducible apply go_ret))
           | (with_reducible apply go_kseq)
           | ((with_reducible apply end_bool); rfl)
  · simp [badLv, h]
  · simp [badLv, h]

structure Grid where
  x : Int
  y : Int
  side : Int
  cols : Int
  rows : Int
  levels : List Int
def encGrid (g : Grid) : List D := [.int .i64 g.x, .int .i64 g.y, .int .i64 g.side, .int .i64 g.cols, .int .i64 g.rows, .sl (g.levels.map encInt)]
def gridE (g : Grid) : Int :=
  if ¬ (((-1000000 ≤ g.x ∧ g.x ≤ 1000000) ∧ -1000000 ≤ g.y ∧ g.y ≤ 1000000) ∧ (100 ≤ g.side ∧ g.side ≤ 10000) ∧ (1 ≤ g.cols ∧ g.cols ≤ 1024) ∧ 1 ≤ g.rows ∧ g.rows ≤ 1024) then 2
  else if 1024 < g.cols * g.rows then 8
  else if 1000000 < g.x + g.cols * g.side ∨ 1000000 < g.y + g.rows * g.side then 2
  else if (g.levels.length : Int) ≠ g.cols * g.rows then 10
  else if g.levels.any badLv then 2 else 0

theorem mul_bd {a b m n : Int} (ha : 1 ≤ a ∧ a ≤ m) (hb : 1 ≤ b ∧ b ≤ n) : 1 ≤ a * b ∧ a * b ≤ m * n := by
  constructor
  · exact Int.le_trans (by decide : (1 : Int) ≤ 1 * 1) (Int.mul_le_mul ha.1 hb.1 (by omega) (by omega))
  · exact Int.mul_le_mul ha.2 hb.2 (by omega) (by omega)

theorem c144 (g : Grid) (hl : g.levels.length < 1000000000000) : Contract Tryz.prog 45 [.agg (encGrid g)] (.ret (.int .i64 (gridE g))) := by
  by_cases hg : ((-1000000 ≤ g.x ∧ g.x ≤ 1000000) ∧ -1000000 ≤ g.y ∧ g.y ≤ 1000000) ∧ (100 ≤ g.side ∧ g.side ≤ 10000) ∧ (1 ≤ g.cols ∧ g.cols ≤ 1024) ∧ 1 ≤ g.rows ∧ g.rows ≤ 1024
  · have b1 := mul_bd hg.2.2.1 hg.2.2.2
    have b2 := mul_bd hg.2.2.1 (b := g.side) (n := 10000) (by omega)
    have b3 := mul_bd hg.2.2.2 (b := g.side) (n := 10000) (by omega)
    refine contract_of mix Tryz.func45 rfl rfl (by rw [Tryz.ntmps45]; exact Nat.le_of_ble_eq_true rfl) ?_; rw [Tryz.results45, Tryz.ntmps45]; simp only [argsE, Nat.reduceAdd]
    repeat' first
           | (with_reducible apply go_op)
           | (with_reducible apply go_next)
           | ((with_reducible (show evOp _ _ _ _ _ _)); first
             | ((with_reducible (show evOp _ (.move _) _ _ _ _)) ; first | ((with_reducible apply go_mv_int); rfl; rfl) | ((with_reducible apply go_mv_bool); rfl; rfl))
             | ((with_reducible apply go_as))
             | (((with_reducible apply go_load_own); rfl; rfl; rfl; rfl))
             | (((with_reducible apply go_fieldAddr_own); rfl; rfl; rfl))
             | ((with_reducible (show evOp _ (.binOp _ _ _ _ _) _ _ _ _)) ; first | ((with_reducible apply go_cmp); rfl; rfl; rfl; rfl) | ((with_reducible apply go_add); rfl; rfl; rfl; omega) | ((with_reducible apply go_mul); rfl; rfl; rfl; omega))
             | ((with_reducible (show evOp _ (.call _) _ _ _ _)) ; first | ((with_reducible apply go_len); rfl; rfl) | ((with_reducible apply go_fn_bool); rfl; (exact c174' _ _ _); rfl) | ((with_reducible apply go_fn_bool); rfl; (exact c174'' _ _ _ _); rfl) | ((with_reducible apply go_fn_bool); rfl; (exact c124 g.levels hl 62 badLv fun x _ => c179 x); rfl))
             | (((with_reducible apply go_not); rfl; rfl))
             | (((with_reducible apply go_pick); rfl; rfl; rfl))
             | (((with_reducible apply go_bx_agg); rfl; rfl; (exact Nat.le_of_ble_eq_true rfl); rfl; rfl))
             | ((with_reducible (show evOp _ (.buildSlice _ _ _) _ _ _ _)) ; first | ((with_reducible apply go_bs1_int); rfl; rfl; rfl) | ((with_reducible apply go_bs2_int); rfl; rfl; rfl; rfl)))
           | ((with_reducible (show evOps _ _ _ _ _ _)); first
             | (with_reducible apply go_nil)
             | ((with_reducible apply go_run); rfl; rfl)
             | ((with_reducible apply go_pass); rfl; rfl; rfl)
             | (((with_reducible apply go_guard); rfl) <;> (intro h; simp only [h, Bool.not_true, Bool.not_false]; (try with_reducible (refine ⟨rfl, ?_⟩)); try simp only [decide_eq_true_eq, decide_eq_false_iff_not, Bool.not_eq_true', Bool.not_eq_false', Bool.not_true, Bool.not_false] at h; try exact absurd trivial h)))
           | ((with_reducible (show evG _ _ _ _ _)); first
             | (with_reducible apply go_seq)
             | (with_reducible apply go_region)
             | ((with_reducible apply go_cond_t); rfl; rfl)
             | (((with_reducible apply go_cond); rfl) <;> (intro h; simp only [h]; try simp only [decide_eq_true_eq, decide_eq_false_iff_not, Bool.not_eq_true', Bool.not_eq_false', Bool.not_true, Bool.not_false] at h; try exact absurd trivial h))
             | (with_reducible apply go_ret)
             | (with_reducible apply go_skipc)
             | (with_reducible apply go_block))
           | (with_reducible apply go_kseq)
           | (with_reducible apply go_kseq_ret)
           | (with_reducible apply go_kblock)
           | (with_reducible apply go_kblock_ret)
           | ((with_reducible apply end_int); rfl)
    all_goals (unfold gridE; (repeat' split) <;> first | rfl | (exfalso; omega) | (exfalso; simp_all; done))
  · have e : gridE g = 2 := by unfold gridE; rw [if_pos hg]
    rw [e]
    refine contract_of mix Tryz.func45 rfl rfl (by rw [Tryz.ntmps45]; exact Nat.le_of_ble_eq_true rfl) ?_; rw [Tryz.results45, Tryz.ntmps45]; simp only [argsE, Nat.reduceAdd]
    repeat' first
           | (with_reducible apply go_op)
           | (with_reducible apply go_next)
           | ((with_reducible (show evOp _ _ _ _ _ _)); first
             | ((with_reducible (show evOp _ (.move _) _ _ _ _)) ; first | ((with_reducible apply go_mv_int); rfl; rfl) | ((with_reducible apply go_mv_bool); rfl; rfl))
             | ((with_reducible apply go_as))
             | (((with_reducible apply go_load_own); rfl; rfl; rfl; rfl))
             | (((with_reducible apply go_fieldAddr_own); rfl; rfl; rfl))
             | ((with_reducible (show evOp _ (.binOp _ _ _ _ _) _ _ _ _)) ; first | ((with_reducible apply go_cmp); rfl; rfl; rfl; rfl) | ((with_reducible apply go_add); rfl; rfl; rfl; omega) | ((with_reducible apply go_mul); rfl; rfl; rfl; omega))
             | ((with_reducible (show evOp _ (.call _) _ _ _ _)) ; first | ((with_reducible apply go_len); rfl; rfl) | ((with_reducible apply go_fn_bool); rfl; (exact c174' _ _ _); rfl) | ((with_reducible apply go_fn_bool); rfl; (exact c174'' _ _ _ _); rfl))
             | (((with_reducible apply go_not); rfl; rfl))
             | (((with_reducible apply go_pick); rfl; rfl; rfl))
             | (((with_reducible apply go_bx_agg); rfl; rfl; (exact Nat.le_of_ble_eq_true rfl); rfl; rfl))
             | ((with_reducible (show evOp _ (.buildSlice _ _ _) _ _ _ _)) ; first | ((with_reducible apply go_bs1_int); rfl; rfl; rfl) | ((with_reducible apply go_bs2_int); rfl; rfl; rfl; rfl)))
           | ((with_reducible (show evOps _ _ _ _ _ _)); first
             | (with_reducible apply go_nil)
             | ((with_reducible apply go_run); rfl; rfl)
             | ((with_reducible apply go_pass); rfl; rfl; rfl)
             | (((with_reducible apply go_guard); rfl) <;> (intro h; simp only [h, Bool.not_true, Bool.not_false]; (try with_reducible (refine ⟨rfl, ?_⟩)); try simp only [decide_eq_true_eq, decide_eq_false_iff_not, Bool.not_eq_true', Bool.not_eq_false', Bool.not_true, Bool.not_false] at h; try exact absurd trivial h)))
           | ((with_reducible (show evG _ _ _ _ _)); first
             | (with_reducible apply go_seq)
             | (with_reducible apply go_region)
             | ((with_reducible apply go_cond_t); rfl; rfl)
             | (((with_reducible apply go_cond); rfl) <;> (intro h; simp only [h]; try simp only [decide_eq_true_eq, decide_eq_false_iff_not, Bool.not_eq_true', Bool.not_eq_false', Bool.not_true, Bool.not_false] at h; try exact absurd trivial h))
             | (with_reducible apply go_ret)
             | (with_reducible apply go_block))
           | (with_reducible apply go_kseq)
           | (with_reducible apply go_kseq_ret)
           | (with_reducible apply go_kblock_ret)
           | ((with_reducible apply end_int); rfl)
           | (with_reducible rfl)
    all_goals first | rfl | (exfalso; omega)

def alikeE (a b : Grid) : Bool := decide (a.x = b.x ∧ a.y = b.y ∧ a.side = b.side ∧ a.cols = b.cols ∧ a.rows = b.rows)
theorem c40 (a b : Grid) : Contract Tryz.prog 20 [.agg (encGrid a), .agg (encGrid b)] (.ret (.bool (alikeE a b))) := by
  refine contract_of mix Tryz.func20 rfl rfl (by rw [Tryz.ntmps20]; exact Nat.le_of_ble_eq_true rfl) ?_; rw [Tryz.results20, Tryz.ntmps20]; simp only [argsE, Nat.reduceAdd]
  repeat' first
           | (with_reducible apply go_op)
           | (with_reducible apply go_next)
           | ((with_reducible (show evOp _ _ _ _ _ _)); first
             | (((with_reducible apply go_mv_bool); rfl; rfl))
             | ((with_reducible apply go_as))
             | (((with_reducible apply go_load_own); rfl; rfl; rfl; rfl))
             | (((with_reducible apply go_fieldAddr_own); rfl; rfl; rfl))
             | (((with_reducible apply go_cmp); rfl; rfl; rfl; rfl))
             | (((with_reducible apply go_pick); rfl; rfl; rfl))
             | (((with_reducible apply go_bx_agg); rfl; rfl; (exact Nat.le_of_ble_eq_true rfl); rfl; rfl)))
           | ((with_reducible (show evOps _ _ _ _ _ _)); first
             | (with_reducible apply go_nil)
             | ((with_reducible apply go_run); rfl; rfl)
             | ((with_reducible apply go_pass); rfl; rfl; rfl)
             | (((with_reducible apply go_guard); rfl) <;> (intro h; simp only [h, Bool.not_true, Bool.not_false]; (try with_reducible (refine ⟨rfl, ?_⟩)); try simp only [decide_eq_true_eq, decide_eq_false_iff_not, Bool.not_eq_true', Bool.not_eq_false', Bool.not_true, Bool.not_false] at h; try exact absurd trivial h)))
           | ((with_reducible (show evG _ _ _ _ _)); first
             | (with_reducible apply go_seq)
             | (with_reducible apply go_region)
             | (with_reducible apply go_ret))
           | (with_reducible apply go_kseq)
           | ((with_reducible apply end_bool); rfl)
  all_goals simp [alikeE, *]
theorem c28 (g : Grid) (hl : g.levels.length < 1000000000000) : Contract Tryz.prog 18 [.agg (encGrid g)] (.ret (.int .i64 (gridE g))) := by
  by_cases hg : ((-1000000 ≤ g.x ∧ g.x ≤ 1000000) ∧ -1000000 ≤ g.y ∧ g.y ≤ 1000000) ∧ (100 ≤ g.side ∧ g.side ≤ 10000) ∧ (1 ≤ g.cols ∧ g.cols ≤ 1024) ∧ 1 ≤ g.rows ∧ g.rows ≤ 1024
  · have b1 := mul_bd hg.2.2.1 hg.2.2.2
    have b2 := mul_bd hg.2.2.1 (b := g.side) (n := 10000) (by omega)
    have b3 := mul_bd hg.2.2.2 (b := g.side) (n := 10000) (by omega)
    refine contract_of mix Tryz.func18 rfl rfl (by rw [Tryz.ntmps18]; exact Nat.le_of_ble_eq_true rfl) ?_; rw [Tryz.results18, Tryz.ntmps18]; simp only [argsE, Nat.reduceAdd]
    repeat' first
           | (with_reducible apply go_op)
           | (with_reducible apply go_next)
           | ((with_reducible (show evOp _ _ _ _ _ _)); first
             | ((with_reducible (show evOp _ (.move _) _ _ _ _)) ; first | ((with_reducible apply go_mv_int); rfl; rfl) | ((with_reducible apply go_mv_bool); rfl; rfl))
             | ((with_reducible apply go_as))
             | (((with_reducible apply go_load_own); rfl; rfl; rfl; rfl))
             | (((with_reducible apply go_fieldAddr_own); rfl; rfl; rfl))
             | ((with_reducible (show evOp _ (.binOp _ _ _ _ _) _ _ _ _)) ; first | ((with_reducible apply go_cmp); rfl; rfl; rfl; rfl) | ((with_reducible apply go_add); rfl; rfl; rfl; omega) | ((with_reducible apply go_mul); rfl; rfl; rfl; omega))
             | ((with_reducible (show evOp _ (.call _) _ _ _ _)) ; first | ((with_reducible apply go_len); rfl; rfl) | ((with_reducible apply go_fn_bool); rfl; (exact c38 _ _ _); rfl))
             | (((with_reducible apply go_not); rfl; rfl))
             | (((with_reducible apply go_pick); rfl; rfl; rfl))
             | (((with_reducible apply go_bx_agg); rfl; rfl; (exact Nat.le_of_ble_eq_true rfl); rfl; rfl)))
           | ((with_reducible (show evOps _ _ _ _ _ _)); first
             | (with_reducible apply go_nil)
             | ((with_reducible apply go_run); rfl; rfl)
             | ((with_reducible apply go_pass); rfl; rfl; rfl)
             | (((with_reducible apply go_guard); rfl) <;> (intro h; simp only [h, Bool.not_true, Bool.not_false]; (try with_reducible (refine ⟨rfl, ?_⟩)); try simp only [decide_eq_true_eq, decide_eq_false_iff_not, Bool.not_eq_true', Bool.not_eq_false', Bool.not_true, Bool.not_false] at h; try exact absurd trivial h)))
           | ((with_reducible (show evG _ _ _ _ _)); first
             | (with_reducible apply go_seq)
             | (with_reducible apply go_region)
             | ((with_reducible apply go_cond_t); rfl; rfl)
             | (((with_reducible apply go_cond); rfl) <;> (intro h; simp only [h]; try simp only [decide_eq_true_eq, decide_eq_false_iff_not, Bool.not_eq_true', Bool.not_eq_false', Bool.not_true, Bool.not_false] at h; try exact absurd trivial h))
             | (with_reducible apply go_ret)
             | (with_reducible apply go_skipc)
             | (with_reducible apply go_block))
           | (with_reducible apply go_kseq)
           | (with_reducible apply go_kseq_ret)
           | ((with_reducible apply end_int); rfl)
    all_goals first | (unfold gridE; (repeat' split) <;> first | rfl | (exfalso; omega) | (exfalso; simp_all; done)) | skip
    have e : gridE g = if g.levels.any badLv then 2 else 0 := by
      unfold gridE; rw [if_neg (by omega), if_neg (by omega), if_neg (by omega), if_neg (by omega)]
    rw [e]
    refine go_count (g.levels.length) (fun i => ⟨[(3, .int .i64 i), (1, .op 0 0 0)], [(0, ⟨6, true, [encGrid g]⟩)], 32, 89⟩) (fun i => ∀ j (hj : j < i) (hj' : j < g.levels.length), badLv g.levels[j] = false) (entails_eq (k := 0) (ns := []) (ks := [3, 1]) [(0, 0)] rfl (by simp) rfl) (fun j h _ => absurd h (Nat.not_lt_zero _)) ?_
    intro i hi hC
    repeat' first
           | (with_reducible apply go_op)
           | (with_reducible apply go_next)
           | ((with_reducible (show evOp _ _ _ _ _ _)); first
             | ((with_reducible (show evOp _ (.move _) _ _ _ _)) ; first | ((with_reducible apply go_mv_int); rfl; rfl) | ((with_reducible apply go_mv_bool); rfl; rfl))
             | ((with_reducible apply go_as))
             | ((with_reducible (show evOp _ (.load _ _) _ _ _ _)) ; first | ((with_reducible apply go_load); rfl; rfl; rfl) | ((with_reducible apply go_load_own); rfl; rfl; rfl; rfl))
             | (((with_reducible apply go_fieldAddr_own); rfl; rfl; rfl))
             | (((with_reducible apply go_index_nat); rfl; rfl; (with_reducible rfl); (intro; rfl); rfl; omega; (intro hlt)))
             | ((with_reducible (show evOp _ (.binOp _ _ _ _ _) _ _ _ _)) ; first | ((with_reducible apply go_cmp); rfl; rfl; rfl; rfl) | ((with_reducible apply go_add); rfl; rfl; rfl; omega))
             | ((with_reducible (show evOp _ (.call _) _ _ _ _)) ; first | ((with_reducible apply go_len); rfl; rfl) | ((with_reducible apply go_fn_bool); rfl; (exact c48 _); rfl))
             | (((with_reducible apply go_not); rfl; rfl))
             | (((with_reducible apply go_pick); rfl; rfl; rfl)))
           | ((with_reducible (show evOps _ _ _ _ _ _)); first
             | (with_reducible apply go_nil)
             | ((with_reducible apply go_run); rfl; rfl)
             | ((with_reducible apply go_pass); rfl; rfl; rfl)
             | (((with_reducible apply go_guard); rfl) <;> (intro h; simp only [h, Bool.not_true, Bool.not_false]; (try with_reducible (refine ⟨rfl, ?_⟩)); try simp only [decide_eq_true_eq, decide_eq_false_iff_not, Bool.not_eq_true', Bool.not_eq_false', Bool.not_true, Bool.not_false] at h; try exact absurd trivial h)))
           | ((with_reducible (show evG _ _ _ _ _)); first
             | (with_reducible apply go_seq)
             | (with_reducible apply go_region)
             | ((with_reducible apply go_cond_f); rfl; rfl)
             | (((with_reducible apply go_cond); rfl) <;> (intro h; simp only [h]; try simp only [decide_eq_true_eq, decide_eq_false_iff_not, Bool.not_eq_true', Bool.not_eq_false', Bool.not_true, Bool.not_false] at h; try exact absurd trivial h))
             | (with_reducible apply go_ret)
             | (with_reducible apply go_skipc)
             | (with_reducible apply go_block)
             | (with_reducible apply go_exit))
           | (with_reducible apply go_kseq)
           | (with_reducible apply go_kseq_ret)
           | (with_reducible apply go_kblock)
           | (with_reducible apply go_kblock_ret)
           | (with_reducible apply go_kblock_exit)
           | (with_reducible apply go_kseq_exit)
           | ((with_reducible apply end_int); rfl)
    · have h1 : ¬ g.levels[i] = 30000 := by assumption
      rw [if_pos (List.any_eq_true.2 ⟨g.levels[i], List.getElem_mem _, by simp [badLv, h, h1]⟩)]
    · have h2 : i < g.levels.length := by omega
      refine ⟨h2, fun j hj hj' => ?_, entails_eq (k := 0) (ns := []) (ks := [3, 1]) [(0, 0)] rfl (by simp) rfl⟩
      rcases Nat.lt_succ_iff_lt_or_eq.1 hj with h' | rfl
      · exact hC j h' hj'
      · simp [badLv, h]
    · have h2 : i < g.levels.length := by omega
      refine ⟨h2, fun j hj hj' => ?_, entails_eq (k := 0) (ns := []) (ks := [3, 1]) [(0, 0)] rfl (by simp) rfl⟩
      rcases Nat.lt_succ_iff_lt_or_eq.1 hj with h' | rfl
      · exact hC j h' hj'
      · simp [badLv, h]
    · rw [if_neg]
      intro hh
      obtain ⟨x, hx, hb⟩ := List.any_eq_true.1 hh
      obtain ⟨j, hj, rfl⟩ := List.mem_iff_getElem.1 hx
      rw [hC j (by omega) hj] at hb
      cases hb
  · have e : gridE g = 2 := by unfold gridE; rw [if_pos hg]
    rw [e]
    refine contract_of mix Tryz.func18 rfl rfl (by rw [Tryz.ntmps18]; exact Nat.le_of_ble_eq_true rfl) ?_; rw [Tryz.results18, Tryz.ntmps18]; simp only [argsE, Nat.reduceAdd]
    repeat' first
           | (with_reducible apply go_op)
           | (with_reducible apply go_next)
           | ((with_reducible (show evOp _ _ _ _ _ _)); first
             | ((with_reducible (show evOp _ (.move _) _ _ _ _)) ; first | ((with_reducible apply go_mv_int); rfl; rfl) | ((with_reducible apply go_mv_bool); rfl; rfl))
             | ((with_reducible apply go_as))
             | (((with_reducible apply go_load_own); rfl; rfl; rfl; rfl))
             | (((with_reducible apply go_fieldAddr_own); rfl; rfl; rfl))
             | ((with_reducible (show evOp _ (.binOp _ _ _ _ _) _ _ _ _)) ; first | ((with_reducible apply go_cmp); rfl; rfl; rfl; rfl) | ((with_reducible apply go_add); rfl; rfl; rfl; omega) | ((with_reducible apply go_mul); rfl; rfl; rfl; omega))
             | ((with_reducible (show evOp _ (.call _) _ _ _ _)) ; first | ((with_reducible apply go_len); rfl; rfl) | ((with_reducible apply go_fn_bool); rfl; (exact c38 _ _ _); rfl))
             | (((with_reducible apply go_not); rfl; rfl))
             | (((with_reducible apply go_pick); rfl; rfl; rfl))
             | (((with_reducible apply go_bx_agg); rfl; rfl; (exact Nat.le_of_ble_eq_true rfl); rfl; rfl)))
           | ((with_reducible (show evOps _ _ _ _ _ _)); first
             | (with_reducible apply go_nil)
             | ((with_reducible apply go_run); rfl; rfl)
             | ((with_reducible apply go_pass); rfl; rfl; rfl)
             | (((with_reducible apply go_guard); rfl) <;> (intro h; simp only [h, Bool.not_true, Bool.not_false]; (try with_reducible (refine ⟨rfl, ?_⟩)); try simp only [decide_eq_true_eq, decide_eq_false_iff_not, Bool.not_eq_true', Bool.not_eq_false', Bool.not_true, Bool.not_false] at h; try exact absurd trivial h)))
           | ((with_reducible (show evG _ _ _ _ _)); first
             | (with_reducible apply go_seq)
             | (with_reducible apply go_region)
             | ((with_reducible apply go_cond_t); rfl; rfl)
             | (((with_reducible apply go_cond); rfl) <;> (intro h; simp only [h]; try simp only [decide_eq_true_eq, decide_eq_false_iff_not, Bool.not_eq_true', Bool.not_eq_false', Bool.not_true, Bool.not_false] at h; try exact absurd trivial h))
             | (with_reducible apply go_ret)
             | (with_reducible apply go_skipc)
             | (with_reducible apply go_block))
           | (with_reducible apply go_kseq)
           | (with_reducible apply go_kseq_ret)
           | ((with_reducible apply end_int); rfl)
           | (with_reducible rfl)
    all_goals first | rfl | (exfalso; omega)
end Go.Pv.Soil

open Go Go.Proofs Go.Pv
set_option maxHeartbeats 2000000
set_option maxRecDepth 100000
set_option linter.unusedSimpArgs false
set_option linter.unusedVariables false
namespace Go.Pv.Soil

/-- A grid that is in order. -/
structure OkGrid (g : Grid) : Prop where
  bds : ((-1000000 ≤ g.x ∧ g.x ≤ 1000000) ∧ -1000000 ≤ g.y ∧ g.y ≤ 1000000) ∧ (100 ≤ g.side ∧ g.side ≤ 10000) ∧ (1 ≤ g.cols ∧ g.cols ≤ 1024) ∧ 1 ≤ g.rows ∧ g.rows ≤ 1024
  cells : g.cols * g.rows ≤ 1024
  ends : g.x + g.cols * g.side ≤ 1000000 ∧ g.y + g.rows * g.side ≤ 1000000
  len : (g.levels.length : Int) = g.cols * g.rows
  lvl : ∀ i (h : i < g.levels.length), g.levels[i] = 30000 ∨ lvOK g.levels[i] = true

theorem okGrid {g : Grid} (h : gridE g = 0) : OkGrid g := by
  unfold gridE at h
  split at h
  · omega
  · rename_i h1
    split at h
    · omega
    · split at h
      · omega
      · split at h
        · omega
        · split at h
          · omega
          · rename_i h5
            refine ⟨Decidable.not_not.1 h1, by omega, by omega, by omega, fun i hi => ?_⟩
            simp only [List.any_eq_true, not_exists, not_and] at h5
            have := h5 _ (List.getElem_mem hi)
            simp only [badLv, Bool.and_eq_true, decide_eq_true_eq, Bool.not_eq_true', not_and, Bool.not_eq_false] at this
            by_cases h3 : g.levels[i] = 30000
            · exact .inl h3
            · exact .inr (this h3)

theorem OkGrid.small {g : Grid} (h : OkGrid g) : g.levels.length ≤ 1024 := by have := h.len; have := h.cells; omega

/-- The middle of a cell. -/
def colE' (g : Grid) (i : Nat) : Int := (i : Int) % g.cols
def rowE' (g : Grid) (i : Nat) : Int := (i : Int) / g.cols
def centreE (g : Grid) (i : Nat) : Pt := ⟨g.x + (i : Int) % g.cols * g.side + g.side / 2, g.y + (i : Int) / g.cols * g.side + g.side / 2⟩
def cornerE (g : Grid) (i : Nat) : Pt := ⟨g.x + (i : Int) % g.cols * g.side, g.y + (i : Int) / g.cols * g.side⟩
theorem nonneg_mul {a b m n : Int} (ha : 0 ≤ a ∧ a ≤ m) (hb : 0 ≤ b ∧ b ≤ n) : 0 ≤ a * b ∧ a * b ≤ m * n :=
  ⟨Int.mul_nonneg ha.1 hb.1, Int.mul_le_mul ha.2 hb.2 hb.1 (by omega)⟩
theorem cell_bds {g : Grid} (h : OkGrid g) {i : Nat} (hi : i < g.levels.length) : (0 ≤ (i : Int) % g.cols ∧ (i : Int) % g.cols < g.cols) ∧ (0 ≤ (i : Int) / g.cols ∧ (i : Int) / g.cols < g.rows) ∧
    (0 ≤ (i : Int) % g.cols * g.side ∧ (i : Int) % g.cols * g.side ≤ 10240000) ∧ (0 ≤ (i : Int) / g.cols * g.side ∧ (i : Int) / g.cols * g.side ≤ 10240000) := by
  have hb := h.bds
  have h1 : 0 ≤ (i : Int) % g.cols := Int.emod_nonneg _ (by omega)
  have h2 : (i : Int) % g.cols < g.cols := Int.emod_lt_of_pos _ (by omega)
  have h3 : 0 ≤ (i : Int) / g.cols := Int.ediv_nonneg (by omega) (by omega)
  have h4 : (i : Int) / g.cols < g.rows := Int.ediv_lt_of_lt_mul (by omega) (by have := h.len; rw [Int.mul_comm]; omega)
  have h5 := nonneg_mul (a := (i : Int) % g.cols) (b := g.side) (m := 1024) (n := 10000) (by omega) (by omega)
  have h6 := nonneg_mul (a := (i : Int) / g.cols) (b := g.side) (m := 1024) (n := 10000) (by omega) (by omega)
  omega

theorem cells62 : Tryz.prog.cellsOf 76 = 2 := by kernel_rfl
theorem c175 (g : Grid) (h : OkGrid g) (i : Nat) (hi : i < g.levels.length) : Contract Tryz.prog 87 [.agg (encGrid g), .int .i64 i] (.ret (.agg (encPt (cornerE g i)))) := by
  have hb := h.bds
  have hc := cell_bds h hi
  have hs := h.small
  refine contract_of mix Tryz.func87 rfl rfl (by rw [Tryz.ntmps87]; exact Nat.le_of_ble_eq_true rfl) ?_; rw [Tryz.results87, Tryz.ntmps87]; simp only [argsE, Nat.reduceAdd]
  repeat' first
           | (with_reducible apply go_op)
           | (with_reducible apply go_next)
           | ((with_reducible (show evOp _ _ _ _ _ _)); first
             | (((with_reducible apply go_mv_int); rfl; rfl))
             | (((with_reducible apply go_load_own); rfl; rfl; rfl; rfl))
             | (((with_reducible apply go_fieldAddr_own); rfl; rfl; rfl))
             | ((with_reducible (show evOp _ (.binOp _ _ _ _ _) _ _ _ _)) ; first | ((with_reducible apply go_add); rfl; rfl; rfl; omega) | ((with_reducible apply go_mul); rfl; rfl; rfl; omega) | ((with_reducible apply go_rem_pos); rfl; rfl; rfl; omega) | ((with_reducible apply go_quo_pos); rfl; rfl; rfl; omega))
             | (((with_reducible apply go_st_agg); rfl; rfl; rfl; rfl; rfl; rfl; rfl))
             | (((with_reducible apply go_bd2_int); rfl; rfl; rfl; rfl))
             | (((with_reducible apply go_bx_agg); rfl; rfl; (exact Nat.le_of_ble_eq_true rfl); rfl; rfl))
             | (((with_reducible apply go_alloc); rfl; rfl; rfl)))
           | ((with_reducible (show evOps _ _ _ _ _ _)); first
             | (with_reducible apply go_nil)
             | ((with_reducible apply go_pre); rfl)
             | ((with_reducible apply go_pre_stop); rfl)
             | ((with_reducible apply go_suf); rfl)
             | ((with_reducible apply go_suf_stop); rfl))
           | ((with_reducible (show evG _ _ _ _ _)); first
             | (with_reducible apply go_seq)
             | (with_reducible apply go_region)
             | ((with_reducible apply go_order); kernel_rfl; rfl)
             | (with_reducible apply go_ret))
           | (with_reducible apply go_kseq)
           | (with_reducible apply go_ksuf)
           | ((with_reducible apply end_agg); rfl; rfl)
  rw [cells62]; rfl

theorem c131 (g : Grid) (h : OkGrid g) (i : Nat) (hi : i < g.levels.length) : Contract Tryz.prog 71 [.agg (encGrid g), .int .i64 i] (.ret (.agg (encPt (centreE g i)))) := by
  have hb := h.bds
  have hc := cell_bds h hi
  have hs := h.small
  have h175 : Contract Tryz.prog 87 [.agg (encGrid g), .int .i64 i] (.ret (.agg [.int .i64 (g.x + (i : Int) % g.cols * g.side), .int .i64 (g.y + (i : Int) / g.cols * g.side)])) := c175 g h i hi
  refine contract_of mix Tryz.func71 rfl rfl (by rw [Tryz.ntmps71]; exact Nat.le_of_ble_eq_true rfl) ?_; rw [Tryz.results71, Tryz.ntmps71]; simp only [argsE, Nat.reduceAdd]
  repeat' first
           | (with_reducible apply go_op)
           | (with_reducible apply go_next)
           | ((with_reducible (show evOp _ _ _ _ _ _)); first
             | (((with_reducible apply go_mv_int); rfl; rfl))
             | ((with_reducible (show evOp _ (.load _ _) _ _ _ _)) ; first | ((with_reducible apply go_ld_agg); rfl; rfl; rfl; rfl) | ((with_reducible apply go_load_own); rfl; rfl; rfl; rfl))
             | (((with_reducible apply go_fieldAddr_own); rfl; rfl; rfl))
             | ((with_reducible (show evOp _ (.binOp _ _ _ _ _) _ _ _ _)) ; first | ((with_reducible apply go_add); rfl; rfl; rfl; omega) | ((with_reducible apply go_quo_pos); rfl; rfl; rfl; omega))
             | (((with_reducible apply go_fn_plain); rfl; (exact h175); rfl; (exact Nat.le_of_ble_eq_true rfl); rfl))
             | (((with_reducible apply go_st_agg); rfl; rfl; rfl; rfl; rfl; rfl; rfl))
             | (((with_reducible apply go_bd2_int); rfl; rfl; rfl; rfl))
             | (((with_reducible apply go_bx_agg); rfl; rfl; (exact Nat.le_of_ble_eq_true rfl); rfl; rfl))
             | (((with_reducible apply go_alloc); rfl; rfl; rfl)))
           | ((with_reducible (show evOps _ _ _ _ _ _)); first
             | (with_reducible apply go_nil))
           | ((with_reducible (show evG _ _ _ _ _)); first
             | (with_reducible apply go_seq)
             | (with_reducible apply go_region)
             | (with_reducible apply go_ret))
           | (with_reducible apply go_kseq)
           | ((with_reducible apply end_agg); rfl; rfl)
  all_goals (rw [cells62]; rfl)

theorem c130 (g : Grid) (h : OkGrid g) (i : Nat) (hi : i < g.levels.length) (h0 : gridE g = 0) : Contract Tryz.prog 70 [.agg (encGrid g), .int .i64 i] (.ret (.int .i64 0)) := by
  have hs := h.small
  have h144 := c144 g (by omega)
  rw [h0] at h144
  refine contract_of mix Tryz.func70 rfl rfl (by rw [Tryz.ntmps70]; exact Nat.le_of_ble_eq_true rfl) ?_; rw [Tryz.results70, Tryz.ntmps70]; simp only [argsE, Nat.reduceAdd]
  repeat' first
           | (with_reducible apply go_op)
           | (with_reducible apply go_next)
           | ((with_reducible (show evOp _ _ _ _ _ _)); first
             | (((with_reducible apply go_mv_int); rfl; rfl))
             | ((with_reducible apply go_as))
             | ((with_reducible (show evOp _ (.load _ _) _ _ _ _)) ; first | ((with_reducible apply go_ld_agg); rfl; rfl; rfl; rfl) | ((with_reducible apply go_load_own); rfl; rfl; rfl; rfl))
             | (((with_reducible apply go_fieldAddr_own); rfl; rfl; rfl))
             | ((with_reducible (show evOp _ (.binOp _ _ _ _ _) _ _ _ _)) ; first | ((with_reducible apply go_cmp); rfl; rfl; rfl; rfl) | ((with_reducible apply go_sub); rfl; rfl; rfl; omega))
             | ((with_reducible (show evOp _ (.call _) _ _ _ _)) ; first | ((with_reducible apply go_len); rfl; rfl) | ((with_reducible apply go_fn_int); rfl; (exact h144); rfl) | ((with_reducible apply go_fn_bool); rfl; (exact c174' _ _ _); rfl))
             | (((with_reducible apply go_not); rfl; rfl))
             | (((with_reducible apply go_bx_agg); rfl; rfl; (exact Nat.le_of_ble_eq_true rfl); rfl; rfl))
             | (((with_reducible apply go_bs1_int); rfl; rfl; rfl)))
           | ((with_reducible (show evOps _ _ _ _ _ _)); first
             | (with_reducible apply go_nil))
           | ((with_reducible (show evG _ _ _ _ _)); first
             | (with_reducible apply go_seq)
             | (with_reducible apply go_region)
             | ((with_reducible apply go_cond_f); rfl; rfl)
             | (((with_reducible apply go_cond); rfl) <;> (intro h; simp only [h]; try simp only [decide_eq_true_eq, decide_eq_false_iff_not, Bool.not_eq_true', Bool.not_eq_false', Bool.not_true, Bool.not_false] at h; try exact absurd trivial h))
             | (with_reducible apply go_ret)
             | (with_reducible apply go_skipc))
           | (with_reducible apply go_kseq)
           | (with_reducible apply go_kseq_ret)
           | ((with_reducible apply end_int); rfl)
           | (with_reducible rfl)
  all_goals (exfalso; omega)

theorem c74 (g : Grid) (h : OkGrid g) (i : Nat) (hi : i < g.levels.length) (h0 : gridE g = 0) : Contract Tryz.prog 55 [.agg (encGrid g), .int .i64 i] (.ret (.tup [.agg (encPt (centreE g i)), .int .i64 0])) := by
  have h130 := c130 g h i hi h0
  have h131 := c131 g h i hi
  refine contract_of mix Tryz.func55 rfl rfl (by rw [Tryz.ntmps55]; exact Nat.le_of_ble_eq_true rfl) ?_; rw [Tryz.results55, Tryz.ntmps55]; simp only [argsE, Nat.reduceAdd]
  repeat' first
           | (with_reducible apply go_op)
           | (with_reducible apply go_next)
           | ((with_reducible (show evOp _ _ _ _ _ _)); first
             | (((with_reducible apply go_mv_int); rfl; rfl))
             | ((with_reducible apply go_as))
             | (((with_reducible apply go_ld_agg); rfl; rfl; rfl; rfl))
             | (((with_reducible apply go_cmp); rfl; rfl; rfl; rfl))
             | ((with_reducible (show evOp _ (.call _) _ _ _ _)) ; first | ((with_reducible apply go_fn_int); rfl; (exact h130); rfl) | ((with_reducible apply go_fn_plain); rfl; (exact h131); rfl; (exact Nat.le_of_ble_eq_true rfl); rfl))
             | (((with_reducible apply go_st_agg); rfl; rfl; rfl; rfl; rfl; rfl; rfl))
             | (((with_reducible apply go_bx_agg); rfl; rfl; (exact Nat.le_of_ble_eq_true rfl); rfl; rfl))
             | (((with_reducible apply go_alloc); rfl; rfl; rfl)))
           | ((with_reducible (show evOps _ _ _ _ _ _)); first
             | (with_reducible apply go_nil))
           | ((with_reducible (show evG _ _ _ _ _)); first
             | (with_reducible apply go_seq)
             | (with_reducible apply go_region)
             | ((with_reducible apply go_cond_f); rfl; rfl)
             | (with_reducible apply go_ret)
             | (with_reducible apply go_skipc))
           | (with_reducible apply go_kseq)
           | ((with_reducible apply end_t2); rfl; rfl; rfl; rfl)
  all_goals (rw [cells62]; rfl)

end Go.Pv.Soil

open Go Go.Proofs Go.Pv
set_option maxHeartbeats 4000000
set_option maxRecDepth 100000
set_option linter.unusedVariables false
namespace Go.Pv.Soil
set_option linter.unusedVariables false
theorem h_centre (g : Grid) (h : OkGrid g) (i : Nat) (hi : i < g.levels.length) (h0 : gridE g = 0) : Contract Tryz.prog 42 [.agg (encGrid g), .int .i64 i] (.ret (.agg (encPt (centreE g i)))) := by
  have h1 := c74 g h i hi h0
  refine contract_of mix Tryz.func42 rfl rfl (by rw [Tryz.ntmps42]; exact Nat.le_of_ble_eq_true rfl) ?_; rw [Tryz.results42, Tryz.ntmps42]; simp only [argsE, Nat.reduceAdd]
  repeat' first
           | (with_reducible apply go_op)
           | (with_reducible apply go_next)
           | ((with_reducible (show evOp _ _ _ _ _ _)); first
             | ((with_reducible (show evOp _ (.move _) _ _ _ _)) ; first | ((with_reducible apply go_mv_int); rfl; rfl) | ((with_reducible apply go_mv_tup); rfl; rfl))
             | ((with_reducible apply go_as))
             | (((with_reducible apply go_ld_agg); rfl; rfl; rfl; rfl))
             | (((with_reducible apply go_fn_plain); rfl; (exact h1); rfl; (exact Nat.le_of_ble_eq_true rfl); rfl))
             | (((with_reducible apply go_st_agg); rfl; rfl; rfl; rfl; rfl; rfl; rfl))
             | (((with_reducible apply go_extract); rfl; rfl))
             | (((with_reducible apply go_bx_agg); rfl; rfl; (exact Nat.le_of_ble_eq_true rfl); rfl; rfl))
             | (((with_reducible apply go_alloc); rfl; rfl; rfl)))
           | ((with_reducible (show evOps _ _ _ _ _ _)); first
             | (with_reducible apply go_nil))
           | ((with_reducible (show evG _ _ _ _ _)); first
             | (with_reducible apply go_seq)
             | (with_reducible apply go_region)
             | (with_reducible apply go_ret))
           | (with_reducible apply go_kseq)
           | ((with_reducible apply end_agg); rfl; rfl)
  all_goals kernel_rfl
end Go.Pv.Soil

open Go Go.Proofs Go.Pv
set_option maxHeartbeats 4000000
set_option maxRecDepth 100000
set_option linter.unusedSimpArgs false
set_option linter.unusedVariables false
namespace Go.Pv.Geo
/-- The exported functions answer 0 if a point is not in range. -/
def crossX (a b c : Pt) : Int := if (ptOK a && ptOK b && ptOK c) = true then crossE a b c else 0
def sqX (a b : Pt) : Int := if (ptOK a && ptOK b) = true then sqE a b else 0
theorem ok2 {a b : Pt} (h : (ptOK a && ptOK b) = true) : ptOK a = true ∧ ptOK b = true := by simpa using h
theorem ok3 {a b c : Pt} (h : (ptOK a && ptOK b && ptOK c) = true) : ptOK a = true ∧ ptOK b = true ∧ ptOK c = true := by
  simp only [Bool.and_eq_true] at h; exact ⟨h.1.1, h.1.2, h.2⟩
theorem ok4 {a b c d : Pt} (h : (ptOK a && ptOK b && ptOK c && ptOK d) = true) : ptOK a = true ∧ ptOK b = true ∧ ptOK c = true ∧ ptOK d = true := by
  simp only [Bool.and_eq_true] at h; exact ⟨h.1.1.1, h.1.1.2, h.1.2, h.2⟩
def cr (b c d : Pt) : Int := (b.x - d.x) * (c.y - d.y) - (b.y - d.y) * (c.x - d.x)
def rdetE (a b c d : Pt) : Int := nrm a d * cr b c d - nrm b d * cr a c d + nrm c d * cr a b d
theorem rdet_eq (a b c d : Pt) : rdetE a b c d = detE a b c d := by
  simp only [rdetE, detE, nrm, cr, crs]; grind
theorem det_swap (a b c d : Pt) : detE b a c d = -detE a b c d := by
  simp only [detE, nrm, crs]; grind
theorem cross_swap (a b c : Pt) : crossE b a c = -crossE a b c := by
  simp only [crossE]; grind
theorem sign_neg (n : Int) : signE (-n) = -signE n := by unfold signE; (repeat' split) <;> omega
end Go.Pv.Geo

open Go Go.Proofs Go.Pv
set_option maxHeartbeats 4000000
set_option maxRecDepth 100000
set_option linter.unusedSimpArgs false
set_option linter.unusedVariables false
namespace Go.Pv.Geo
instance tintI' : TInt Tryz.prog 3 .i64 := ⟨by kernel_rfl⟩
instance tflo : TFloat Tryz.prog 137 := ⟨by kernel_rfl⟩
theorem ext1 : Extern.findNext Tryz.f109 = none := by kernel_rfl
theorem ext2 : Extern.find Tryz.f109 = some Extern.MathSqrt.sqrt := by kernel_rfl
theorem ext3 : (Tryz.f109.name == "runtime.NumGoroutine") = false := by kernel_rfl
theorem ext4 : Tryz.f109.body.isNone = true := by kernel_rfl
theorem run_ext (x r : Nat) (h : FloatKind.f64.format.sqrt x = some r) (w : World) : (callFunc 109 #[.float .f64 x]).run Tryz.prog w = .ok (.value (.float .f64 r)) w := by
  have hs : Extern.MathSqrt.sqrt #[.float .f64 x] = pure (.float .f64 r) := by
    show (match FloatKind.f64.format.sqrt x with
      | some r => (pure (Value.float .f64 r) : Sem Value)
      | none => do pure (Value.float .f64 (← choose (.nanBits .f64 x x)))) = _
    rw [h]
  unfold callFunc
  have n1 : ¬ Tryz.f109.name = "runtime.NumGoroutine" := by simpa using ext3
  have n2 : Tryz.f109.body = none := by simpa using ext4
  simp [Tryz.func109, ext1, ext2, n1, n2, hs]
theorem sqrt_calls (x r : Nat) (h : FloatKind.f64.format.sqrt x = some r) (w : World) : Calls Tryz.prog 104 #[.float .f64 x] w fun e w' => e = .returned (.float .f64 r) ∧ w' = w := by
  have h1 := run_ext x r h
  go_enter Tryz.func104, Tryz.ntmps104
  go_wp2
  go_ret
  exact ⟨rfl, rfl⟩
theorem c_Sqrt (x r : Nat) (h : FloatKind.f64.format.sqrt x = some r) : Contract Tryz.prog 104 [.float .f64 x] (.ret (.float .f64 r)) := by
  refine ⟨⟨Tryz.f104, Tryz.func104, rfl, by kernel_rfl⟩, fun S w args hS ⟨hl, ha⟩ => ?_⟩
  have e : args = #[.float .f64 x] := by
    match args, hl, ha with
    | ⟨[v]⟩, _, ha =>
      have := ha 0 v _ rfl rfl
      cases this with
      | float k n => rfl
  subst e
  refine (sqrt_calls x r h w).mono ?_
  rintro e w' ⟨rfl, rfl⟩
  refine ⟨Go.Pv.Below.refl _ _, fun _ => False, fun g hg => hg.elim, _, rfl, fun n => ⟨fun _ => .pending, ⟨fun b blk hb => ?_, fun b _ => .inr rfl, fun b b' g h => h.elim, fun b g h => h.elim, fun g hg => hg.elim⟩, .pure _ _ (.float _ _), fun b _ => rfl⟩⟩
  cases hb

/-- The least number whose square is at least s. -/
def IsSpan (s n : Int) : Prop := 0 ≤ n ∧ s ≤ n * n ∧ ∀ m, 0 ≤ m → m < n → m * m < s
theorem span_uniq {s n m : Int} (h : IsSpan s n) (h' : IsSpan s m) : n = m := by
  rcases Int.lt_trichotomy n m with hlt | he | hlt
  · have := h'.2.2 n h.1 hlt; have := h.2.1; omega
  · exact he
  · have := h.2.2 m h'.1 hlt; have := h'.2.1; omega
noncomputable def spanE (s : Int) : Int := Classical.epsilon (IsSpan s)
theorem spanE_eq {s n : Int} (h : IsSpan s n) : spanE s = n := span_uniq (Classical.epsilon_spec (p := IsSpan s) ⟨n, h⟩) h
theorem sq_mono {m n : Int} (h0 : 0 ≤ m) (h : m ≤ n) : m * m ≤ n * n := Int.mul_le_mul h h h0 (by omega)
theorem sqE_bd {a b : Pt} (ha : ptOK a = true) (hb : ptOK b = true) : 0 ≤ sqE a b ∧ sqE a b ≤ 8000000000000 := by
  have h1 := pt_bd ha
  have h2 := pt_bd hb
  have m1 := mul4 (u := b.x - a.x) (v := b.x - a.x) (by omega) (by omega)
  have m2 := mul4 (u := b.y - a.y) (v := b.y - a.y) (by omega) (by omega)
  have n1 : 0 ≤ (b.x - a.x) * (b.x - a.x) := by rcases Int.le_total 0 (b.x - a.x) with h | h; exact Int.mul_nonneg h h; exact Int.mul_nonneg_of_nonpos_of_nonpos h h
  have n2 : 0 ≤ (b.y - a.y) * (b.y - a.y) := by rcases Int.le_total 0 (b.y - a.y) with h | h; exact Int.mul_nonneg h h; exact Int.mul_nonneg_of_nonpos_of_nonpos h h
  simp only [sqE, dotE]
  omega
theorem span_ex {s : Int} : ∀ N : Nat, s ≤ (N : Int) * N → ∃ n : Int, n ≤ N ∧ IsSpan s n
  | 0, h => ⟨0, by omega, by omega, by omega, fun m h1 h2 => by omega⟩
  | N + 1, h => by
    by_cases h' : s ≤ (N : Int) * N
    · obtain ⟨n, h1, h2⟩ := span_ex N h'
      exact ⟨n, by omega, h2⟩
    · exact ⟨((N + 1 : Nat) : Int), by omega, by omega, h, fun m h1 h2 => by have := sq_mono h1 (show m ≤ (N : Int) by omega); omega⟩
theorem span_is {s : Int} (h : s ≤ 8000000000000) : IsSpan s (spanE s) ∧ spanE s ≤ 4000000 := by
  obtain ⟨n, h1, h2⟩ := span_ex (s := s) 4000000 (by omega)
  rw [spanE_eq h2]
  exact ⟨h2, h1⟩
theorem c_span (a b : Pt) (ha : ptOK a = true) (hb : ptOK b = true) : Contract Tryz.prog 94 [.agg (encPt a), .agg (encPt b)] (.ret (.int .i64 (spanE (sqE a b)))) := by
  have hbd := sqE_bd ha hb
  have hd : Contract Tryz.prog 103 [.agg (encPt a), .agg (encPt b), .agg (encPt b)] (.ret (.int .i64 (sqE a b))) := c_dot a b b ha hb hb
  generalize sqE a b = s at *
  obtain ⟨r, n0, hr, hn, hn0⟩ := Sq.sqrt_small s.toNat (by omega)
  have hsn : ((s.toNat : Nat) : Int) = s := by omega
  rw [hsn] at hr
  have hS := c_Sqrt _ _ hr
  refine contract_of mix Tryz.func94 rfl rfl (by rw [Tryz.ntmps94]; exact Nat.le_of_ble_eq_true rfl) ?_; rw [Tryz.results94, Tryz.ntmps94]; simp only [argsE, Nat.reduceAdd]
  repeat' first
           | (with_reducible apply go_op)
           | (with_reducible apply go_next)
           | ((with_reducible (show evOp _ _ _ _ _ _)); first
             | (((with_reducible apply go_mv_int); rfl; rfl))
             | ((with_reducible apply go_as))
             | (((with_reducible apply go_ld_agg); rfl; rfl; rfl; rfl))
             | ((with_reducible (show evOp _ (.call _) _ _ _ _)) ; first | ((with_reducible apply go_fn_int); rfl; (exact hd); rfl) | ((with_reducible apply go_fn_float); rfl; (exact hS); rfl))
             | (((with_reducible apply go_conv_if); rfl; rfl))
             | (((with_reducible apply go_bx_agg); rfl; rfl; (exact Nat.le_of_ble_eq_true rfl); rfl; rfl)))
           | ((with_reducible (show evOps _ _ _ _ _ _)); first
             | (with_reducible apply go_nil))
           | ((with_reducible (show evG _ _ _ _ _)); first
             | (with_reducible apply go_seq)
             | (with_reducible apply go_region))
           | (with_reducible apply go_kseq)
  refine go_conv_fi rfl hn (by omega) rfl ?_
  repeat' first
           | (with_reducible apply go_op)
           | (with_reducible apply go_next)
           | ((with_reducible (show evOp _ _ _ _ _ _)); first
             | (((with_reducible apply go_mv_int); rfl; rfl))
             | ((with_reducible apply go_as)))
           | ((with_reducible (show evOps _ _ _ _ _ _)); first
             | (with_reducible apply go_nil))
           | ((with_reducible (show evG _ _ _ _ _)); first
             | (with_reducible apply go_seq)
             | (with_reducible apply go_block))
           | (with_reducible apply go_kseq)
  refine go_while (fun n : Int => (20000000 - n).toNat) (fun n => ⟨[(6, .int .i64 n), (5, .int .i64 s)], [], 0, 36⟩) (fun n => 0 ≤ n ∧ n ≤ 16777216) (n0 : Int)
    (entails_eq (nx := 0) (k := 0) (ns := []) (ks := [6, 5]) [] rfl (by simp) (by kernel_rfl)) (by omega) ?_
  rintro n ⟨h1, h2⟩
  have hnn := sq_mono h1 h2
  have hnn0 := Int.mul_nonneg h1 h1
  repeat' first
           | (with_reducible apply go_op)
           | (with_reducible apply go_next)
           | ((with_reducible (show evOp _ _ _ _ _ _)); first
             | (((with_reducible apply go_mv_int); rfl; rfl))
             | ((with_reducible apply go_as))
             | ((with_reducible (show evOp _ (.binOp _ _ _ _ _) _ _ _ _)) ; first | ((with_reducible apply go_cmp); rfl; rfl; rfl; rfl) | ((with_reducible apply go_add); rfl; rfl; rfl; omega) | ((with_reducible apply go_mul); rfl; rfl; rfl; omega)))
           | ((with_reducible (show evOps _ _ _ _ _ _)); first
             | (with_reducible apply go_nil))
           | ((with_reducible (show evG _ _ _ _ _)); first
             | (with_reducible apply go_seq)
             | (with_reducible apply go_region)
             | (((with_reducible apply go_cond); rfl) <;> (intro h; simp only [h]; try simp only [decide_eq_true_eq, decide_eq_false_iff_not, Bool.not_eq_true', Bool.not_eq_false', Bool.not_true, Bool.not_false] at h; try exact absurd trivial h))
             | (with_reducible apply go_skipc)
             | (with_reducible apply go_block)
             | (with_reducible apply go_exit))
           | (with_reducible apply go_kseq)
           | (with_reducible apply go_kblock)
           | (with_reducible apply go_kblock_exit)
           | (with_reducible apply go_kseq_exit)
  · have h3 : n < 3000000 := by
      rcases Int.lt_or_le n 3000000 with h | h
      · exact h
      · have := sq_mono (show (0 : Int) ≤ 3000000 by omega) h; omega
    exact ⟨n + 1, by omega, ⟨by omega, by omega⟩, entails_eq (nx := 0) (k := 0) (ns := []) (ks := [6, 5]) [] rfl (by simp) (by kernel_rfl)⟩
  refine go_while (fun n : Int => n.toNat) (fun n => ⟨[(6, .int .i64 n), (5, .int .i64 s)], [], 0, 36⟩) (fun n => (0 ≤ n ∧ n ≤ 16777216) ∧ s ≤ n * n) n
    (entails_eq (nx := 0) (k := 0) (ns := []) (ks := [6, 5]) [] rfl (by simp) (by kernel_rfl)) ⟨⟨h1, h2⟩, by omega⟩ ?_
  clear hnn hnn0 h1 h2
  rintro m ⟨⟨h1, h2⟩, h3⟩
  have hmm : 0 < m → 0 ≤ (m - 1) * (m - 1) ∧ (m - 1) * (m - 1) ≤ 281474976710656 := fun h => ⟨Int.mul_nonneg (by omega) (by omega), by have := sq_mono (show 0 ≤ m - 1 by omega) (show m - 1 ≤ 16777216 by omega); omega⟩
  by_cases h0 : 0 < m
  · have hm2 := hmm h0
    repeat' first
           | (with_reducible apply go_op)
           | (with_reducible apply go_next)
           | ((with_reducible (show evOp _ _ _ _ _ _)); first
             | ((with_reducible (show evOp _ (.move _) _ _ _ _)) ; first | ((with_reducible apply go_mv_int); rfl; rfl) | ((with_reducible apply go_mv_bool); rfl; rfl))
             | ((with_reducible apply go_as))
             | ((with_reducible (show evOp _ (.binOp _ _ _ _ _) _ _ _ _)) ; first | ((with_reducible apply go_cmp); rfl; rfl; rfl; rfl) | ((with_reducible apply go_sub); rfl; rfl; rfl; omega) | ((with_reducible apply go_mul); rfl; rfl; rfl; omega))
             | (((with_reducible apply go_pick); rfl; rfl; rfl)))
           | ((with_reducible (show evOps _ _ _ _ _ _)); first
             | (with_reducible apply go_nil)
             | ((with_reducible apply go_run); rfl; rfl)
             | ((with_reducible apply go_pass); rfl; rfl; rfl)
             | (((with_reducible apply go_guard); rfl) <;> (intro h; simp only [h, Bool.not_true, Bool.not_false]; (try with_reducible (refine ⟨rfl, ?_⟩)); try simp only [decide_eq_true_eq, decide_eq_false_iff_not, Bool.not_eq_true', Bool.not_eq_false', Bool.not_true, Bool.not_false] at h; try exact absurd trivial h)))
           | ((with_reducible (show evG _ _ _ _ _)); first
             | (with_reducible apply go_seq)
             | (with_reducible apply go_region)
             | ((with_reducible apply go_cond_f); rfl; rfl)
             | (((with_reducible apply go_cond); rfl) <;> (intro h; simp only [h]; try simp only [decide_eq_true_eq, decide_eq_false_iff_not, Bool.not_eq_true', Bool.not_eq_false', Bool.not_true, Bool.not_false] at h; try exact absurd trivial h))
             | (with_reducible apply go_ret)
             | (with_reducible apply go_skipc)
             | (with_reducible apply go_block)
             | (with_reducible apply go_exit))
           | (with_reducible apply go_kseq)
           | (with_reducible apply go_kblock)
           | (with_reducible apply go_kblock_exit)
           | (with_reducible apply go_kseq_exit)
           | ((with_reducible apply end_int); rfl)
    all_goals first
      | exact ⟨m - 1, by omega, ⟨⟨by omega, by omega⟩, by omega⟩, entails_eq (nx := 0) (k := 0) (ns := []) (ks := [6, 5]) [] rfl (by simp) (by kernel_rfl)⟩
      | exact (spanE_eq ⟨h1, h3, fun k hk1 hk2 => by have := sq_mono hk1 (show k ≤ m - 1 by omega); omega⟩).symm
      | (exfalso; omega)
      | trace_state
  · repeat' first
           | (with_reducible apply go_op)
           | (with_reducible apply go_next)
           | ((with_reducible (show evOp _ _ _ _ _ _)); first
             | ((with_reducible (show evOp _ (.move _) _ _ _ _)) ; first | ((with_reducible apply go_mv_int); rfl; rfl) | ((with_reducible apply go_mv_bool); rfl; rfl))
             | ((with_reducible apply go_as))
             | ((with_reducible (show evOp _ (.binOp _ _ _ _ _) _ _ _ _)) ; first | ((with_reducible apply go_cmp); rfl; rfl; rfl; rfl) | ((with_reducible apply go_sub); rfl; rfl; rfl; omega) | ((with_reducible apply go_mul); rfl; rfl; rfl; omega))
             | (((with_reducible apply go_pick); rfl; rfl; rfl)))
           | ((with_reducible (show evOps _ _ _ _ _ _)); first
             | (with_reducible apply go_nil)
             | ((with_reducible apply go_run); rfl; rfl)
             | ((with_reducible apply go_pass); rfl; rfl; rfl)
             | (((with_reducible apply go_guard); rfl) <;> (intro h; simp only [h, Bool.not_true, Bool.not_false]; (try with_reducible (refine ⟨rfl, ?_⟩)); try simp only [decide_eq_true_eq, decide_eq_false_iff_not, Bool.not_eq_true', Bool.not_eq_false', Bool.not_true, Bool.not_false] at h; try exact absurd trivial h)))
           | ((with_reducible (show evG _ _ _ _ _)); first
             | (with_reducible apply go_seq)
             | (with_reducible apply go_region)
             | ((with_reducible apply go_cond_f); rfl; rfl)
             | (((with_reducible apply go_cond); rfl) <;> (intro h; simp only [h]; try simp only [decide_eq_true_eq, decide_eq_false_iff_not, Bool.not_eq_true', Bool.not_eq_false', Bool.not_true, Bool.not_false] at h; try exact absurd trivial h))
             | (with_reducible apply go_ret)
             | (with_reducible apply go_skipc)
             | (with_reducible apply go_block)
             | (with_reducible apply go_exit))
           | (with_reducible apply go_kseq)
           | (with_reducible apply go_kblock)
           | (with_reducible apply go_kblock_exit)
           | (with_reducible apply go_kseq_exit)
           | ((with_reducible apply end_int); rfl)
    all_goals first
      | exact (spanE_eq ⟨h1, h3, fun k hk1 hk2 => by omega⟩).symm
      | (exfalso; omega)
      | trace_state
noncomputable def spanX (a b : Pt) : Int := if (ptOK a && ptOK b) = true then spanE (sqE a b) else 0
theorem c_Span (a b : Pt) : Contract Tryz.prog 86 [.agg (encPt a), .agg (encPt b)] (.ret (.int .i64 (spanX a b))) := by
  have h1 := c_outside_2 a b
  unfold spanX
  cases hok : ptOK a && ptOK b
  · rw [hok] at h1
    refine contract_of mix Tryz.func86 rfl rfl (by rw [Tryz.ntmps86]; exact Nat.le_of_ble_eq_true rfl) ?_; rw [Tryz.results86, Tryz.ntmps86]; simp only [argsE, Nat.reduceAdd]
    repeat' first
           | (with_reducible apply go_op)
           | (with_reducible apply go_next)
           | ((with_reducible (show evOp _ _ _ _ _ _)); first
             | (((with_reducible apply go_mv_int); rfl; rfl))
             | ((with_reducible apply go_as))
             | (((with_reducible apply go_ld_agg); rfl; rfl; rfl; rfl))
             | (((with_reducible apply go_fn_bool); (exact purL_os rfl (by simp) rfl); (exact h1); rfl))
             | (((with_reducible apply go_bx_agg); rfl; rfl; (exact Nat.le_of_ble_eq_true rfl); rfl; rfl))
             | (((with_reducible apply go_bs2_agg); rfl; rfl; rfl; rfl; rfl; rfl; rfl; rfl)))
           | ((with_reducible (show evOps _ _ _ _ _ _)); first
             | (with_reducible apply go_nil))
           | ((with_reducible (show evG _ _ _ _ _)); first
             | (with_reducible apply go_seq)
             | (with_reducible apply go_region)
             | ((with_reducible apply go_cond_t); rfl; rfl)
             | (with_reducible apply go_ret))
           | (with_reducible apply go_kseq)
           | (with_reducible apply go_kseq_ret)
           | ((with_reducible apply end_int); rfl)
    all_goals rfl
  · rw [hok] at h1
    obtain ⟨ha, hb⟩ := ok2 hok
    refine contract_of mix Tryz.func86 rfl rfl (by rw [Tryz.ntmps86]; exact Nat.le_of_ble_eq_true rfl) ?_; rw [Tryz.results86, Tryz.ntmps86]; simp only [argsE, Nat.reduceAdd]
    repeat' first
           | (with_reducible apply go_op)
           | (with_reducible apply go_next)
           | ((with_reducible (show evOp _ _ _ _ _ _)); first
             | (((with_reducible apply go_mv_int); rfl; rfl))
             | ((with_reducible apply go_as))
             | (((with_reducible apply go_ld_agg); rfl; rfl; rfl; rfl))
             | ((with_reducible (show evOp _ (.call _) _ _ _ _)) ; first | ((with_reducible apply go_fn_bool); (exact purL_os rfl (by simp) rfl); (exact h1); rfl) | ((with_reducible apply go_fn_int); rfl; (exact c_span a b ha hb); rfl))
             | (((with_reducible apply go_bx_agg); rfl; rfl; (exact Nat.le_of_ble_eq_true rfl); rfl; rfl))
             | (((with_reducible apply go_bs2_agg); rfl; rfl; rfl; rfl; rfl; rfl; rfl; rfl)))
           | ((with_reducible (show evOps _ _ _ _ _ _)); first
             | (with_reducible apply go_nil))
           | ((with_reducible (show evG _ _ _ _ _)); first
             | (with_reducible apply go_seq)
             | (with_reducible apply go_region)
             | ((with_reducible apply go_cond_f); rfl; rfl)
             | (with_reducible apply go_ret)
             | (with_reducible apply go_skipc))
           | (with_reducible apply go_kseq)
           | ((with_reducible apply end_int); rfl)
    all_goals rfl
end Go.Pv.Geo

open Go Go.Proofs Go.Pv
set_option maxHeartbeats 4000000
set_option maxRecDepth 100000
set_option linter.unusedSimpArgs false
set_option linter.unusedVariables false
namespace Go.Pv.Geo
def eqP (a b : Pt) : Bool := decide (a.x = b.x) && (decide (a.y = b.y) && true)
theorem eqP_iff {a b : Pt} : eqP a b = true ↔ a = b := by cases a; cases b; simp [eqP]
theorem sq_pos {a b : Pt} (h : eqP a b = false) : 0 < sqE a b := by
  have hne : a ≠ b := fun e => by rw [eqP_iff.2 e] at h; cases h
  have s1 : ∀ u : Int, 0 ≤ u * u := fun u => by rcases Int.le_total 0 u with h | h; exact Int.mul_nonneg h h; exact Int.mul_nonneg_of_nonpos_of_nonpos h h
  have s2 : ∀ u : Int, u ≠ 0 → 0 < u * u := fun u hu => by
    rcases Int.lt_or_gt_of_ne hu with h | h
    · exact Int.mul_pos_of_neg_of_neg h h
    · exact Int.mul_pos h h
  have h1 := s1 (b.x - a.x)
  have h2 := s1 (b.y - a.y)
  simp only [sqE, dotE]
  by_cases hx : b.x - a.x = 0
  · have hy : b.y - a.y ≠ 0 := fun hy => hne (by cases a; cases b; simp at hx hy ⊢; omega)
    have := s2 _ hy
    omega
  · have := s2 _ hx
    omega
theorem span_pos {s : Int} (h : 0 < s) (h' : s ≤ 8000000000000) : 0 < spanE s := by
  have h1 := (span_is h').1
  rcases Int.lt_or_eq_of_le h1.1 with hp | he
  · exact hp
  · have := h1.2.1
    rw [← he] at this
    omega
def lineE (a b p : Pt) : Int := if (ptOK a && ptOK b && ptOK p) = false then 2 else if eqP a b = true then 11 else 0
theorem c_lineErr (a b p : Pt) : Contract Tryz.prog 91 [.agg (encPt a), .agg (encPt b), .agg (encPt p)] (.ret (.int .i64 (lineE a b p))) := by
  have h1 := c_outside_3 a b p
  cases hok : ptOK a && ptOK b && ptOK p
  · rw [hok] at h1
    have e : lineE a b p = 2 := if_pos hok
    rw [e]
    refine contract_of mix Tryz.func91 rfl rfl (by rw [Tryz.ntmps91]; exact Nat.le_of_ble_eq_true rfl) ?_; rw [Tryz.results91, Tryz.ntmps91]; simp only [argsE, Nat.reduceAdd]
    repeat' first
           | (with_reducible apply go_op)
           | (with_reducible apply go_next)
           | ((with_reducible (show evOp _ _ _ _ _ _)); first
             | ((with_reducible (show evOp _ (.move _) _ _ _ _)) ; first | ((with_reducible apply go_mv_int); rfl; rfl) | ((with_reducible apply go_mv_bool); rfl; rfl))
             | ((with_reducible apply go_as))
             | (((with_reducible apply go_ld_agg); rfl; rfl; rfl; rfl))
             | (((with_reducible apply go_fn_bool); (exact purL_os rfl (by simp) rfl); (exact h1); rfl))
             | (((with_reducible apply go_bx_agg); rfl; rfl; (exact Nat.le_of_ble_eq_true rfl); rfl; rfl))
             | (((with_reducible apply go_bs3_agg); rfl; rfl; rfl; rfl; rfl; rfl; rfl; rfl; rfl; rfl)))
           | ((with_reducible (show evOps _ _ _ _ _ _)); first
             | (with_reducible apply go_nil))
           | ((with_reducible (show evG _ _ _ _ _)); first
             | (with_reducible apply go_seq)
             | (with_reducible apply go_region)
             | ((with_reducible apply go_cond_t); rfl; rfl)
             | (with_reducible apply go_ret)
             | (with_reducible apply go_block))
           | (with_reducible apply go_kseq)
           | (with_reducible apply go_kseq_ret)
           | (with_reducible apply go_kblock_ret)
           | ((with_reducible apply end_int); rfl)
           | (with_reducible rfl)
    all_goals rfl
  · rw [hok] at h1
    have e : lineE a b p = if eqP a b = true then 11 else 0 := if_neg (by rw [hok]; simp)
    rw [e]
    refine contract_of mix Tryz.func91 rfl rfl (by rw [Tryz.ntmps91]; exact Nat.le_of_ble_eq_true rfl) ?_; rw [Tryz.results91, Tryz.ntmps91]; simp only [argsE, Nat.reduceAdd]
    repeat' first
           | (with_reducible apply go_op)
           | (with_reducible apply go_next)
           | ((with_reducible (show evOp _ _ _ _ _ _)); first
             | ((with_reducible (show evOp _ (.move _) _ _ _ _)) ; first | ((with_reducible apply go_mv_int); rfl; rfl) | ((with_reducible apply go_mv_bool); rfl; rfl))
             | ((with_reducible apply go_as))
             | (((with_reducible apply go_ld_agg); rfl; rfl; rfl; rfl))
             | (((with_reducible apply go_eql_agg); rfl; rfl; rfl; rfl))
             | (((with_reducible apply go_fn_bool); (exact purL_os rfl (by simp) rfl); (exact h1); rfl))
             | (((with_reducible apply go_bx_agg); rfl; rfl; (exact Nat.le_of_ble_eq_true rfl); rfl; rfl))
             | (((with_reducible apply go_bs3_agg); rfl; rfl; rfl; rfl; rfl; rfl; rfl; rfl; rfl; rfl)))
           | ((with_reducible (show evOps _ _ _ _ _ _)); first
             | (with_reducible apply go_nil))
           | ((with_reducible (show evG _ _ _ _ _)); first
             | (with_reducible apply go_seq)
             | (with_reducible apply go_region)
             | ((with_reducible apply go_cond_f); rfl; rfl)
             | (((with_reducible apply go_cond); rfl) <;> (intro h; simp only [h]; try simp only [decide_eq_true_eq, decide_eq_false_iff_not, Bool.not_eq_true', Bool.not_eq_false', Bool.not_true, Bool.not_false] at h; try exact absurd trivial h))
             | (with_reducible apply go_ret)
             | (with_reducible apply go_skipc)
             | (with_reducible apply go_block))
           | (with_reducible apply go_kseq)
           | (with_reducible apply go_kseq_ret)
           | (with_reducible apply go_kblock)
           | (with_reducible apply go_kblock_ret)
           | ((with_reducible apply end_int); rfl)
    · rw [if_pos (show eqP a b = true by assumption)]
    · rw [if_neg (by rw [show eqP a b = false by assumption]; simp)]
noncomputable def offE (a b p : Pt) : Int := absE (crossE a b p) / spanE (sqE a b)
noncomputable def alongE (a b p : Pt) : Int := dotE a b p / spanE (sqE a b)
theorem mx_abs (n : Int) : max n (0 - n) = absE n := by unfold absE; split <;> omega
theorem absE_nn (n : Int) : 0 ≤ absE n := by unfold absE; split <;> omega
theorem absE_le {n B : Int} (h : -B ≤ n ∧ n ≤ B) : absE n ≤ B := by unfold absE; split <;> omega
theorem c_offset (a b p : Pt) (ha : ptOK a = true) (hb : ptOK b = true) (hp : ptOK p = true) (hne : eqP a b = false) : Contract Tryz.prog 92 [.agg (encPt a), .agg (encPt b), .agg (encPt p)] (.ret (.int .i64 (offE a b p))) := by
  have hx := c_cross a b p ha hb hp
  have hs := c_span a b ha hb
  have h1 := crossE_bd ha hb hp
  have h2 := span_pos (sq_pos hne) (sqE_bd ha hb).2
  have h3 := (span_is (sqE_bd ha hb).2).2
  unfold offE
  rw [← mx_abs]
  refine contract_of mix Tryz.func92 rfl rfl (by rw [Tryz.ntmps92]; exact Nat.le_of_ble_eq_true rfl) ?_; rw [Tryz.results92, Tryz.ntmps92]; simp only [argsE, Nat.reduceAdd]
  repeat' first
           | (with_reducible apply go_op)
           | (with_reducible apply go_next)
           | ((with_reducible (show evOp _ _ _ _ _ _)); first
             | (((with_reducible apply go_mv_int); rfl; rfl))
             | ((with_reducible apply go_as))
             | (((with_reducible apply go_ld_agg); rfl; rfl; rfl; rfl))
             | (((with_reducible apply go_quo_pos); rfl; rfl; rfl; omega))
             | ((with_reducible (show evOp _ (.call _) _ _ _ _)) ; first | ((with_reducible apply go_max); rfl; rfl; rfl) | ((with_reducible apply go_fn_int); rfl; (exact hx); rfl) | ((with_reducible apply go_fn_int); rfl; (exact hs); rfl))
             | (((with_reducible apply go_neg); rfl; rfl; omega))
             | (((with_reducible apply go_bx_agg); rfl; rfl; (exact Nat.le_of_ble_eq_true rfl); rfl; rfl)))
           | ((with_reducible (show evOps _ _ _ _ _ _)); first
             | (with_reducible apply go_nil))
           | ((with_reducible (show evG _ _ _ _ _)); first
             | (with_reducible apply go_seq)
             | (with_reducible apply go_region)
             | (with_reducible apply go_ret))
           | (with_reducible apply go_kseq)
           | ((with_reducible apply end_int); rfl)
           | (with_reducible rfl)
  all_goals trace_state
theorem along_lem {d s : Int} (hs : 0 < s) : (d.tdiv s * s > d → d.tdiv s - 1 = d / s) ∧ (¬ d.tdiv s * s > d → d.tdiv s = d / s) := by
  have e := Int.tdiv_eq_ediv (a := d) (b := s)
  rw [Int.sign_eq_one_of_pos hs] at e
  have e1 := Int.mul_ediv_add_emod d s
  have e2 := Int.emod_nonneg d (show s ≠ 0 by omega)
  have e3 := Int.emod_lt_of_pos d hs
  rw [Int.mul_comm] at e1
  generalize hq : d / s = q at *
  split at e
  · rename_i h
    have e4 : d.tdiv s = q := by omega
    rw [e4]
    exact ⟨fun h => by omega, fun _ => rfl⟩
  · rename_i h
    have e4 : d.tdiv s = q + 1 := by omega
    rw [e4, Int.add_mul, Int.one_mul]
    have hz : d % s ≠ 0 := fun hz => h (.inr (Int.dvd_of_emod_eq_zero hz))
    exact ⟨fun _ => by omega, fun h => by omega⟩
theorem tdiv_bd {d s B : Int} (hs : 0 < s) (h : -B ≤ d ∧ d ≤ B) : -B - 1 ≤ d.tdiv s ∧ d.tdiv s ≤ B + 1 ∧ -B ≤ d.tdiv s * s ∧ d.tdiv s * s ≤ B := by
  have hd : (d.tdiv s).natAbs ≤ d.natAbs := Int.natAbs_tdiv_le_natAbs d s
  have hm : (d.tdiv s * s).natAbs ≤ d.natAbs := by
    rw [Int.natAbs_mul, Int.natAbs_tdiv]
    exact Nat.div_mul_le_self _ _
  omega
noncomputable def offX (a b p : Pt) : Int := if lineE a b p = 0 then offE a b p else 0
noncomputable def alongX (a b p : Pt) : Int := if lineE a b p = 0 then alongE a b p else 0
theorem line_ok {a b p : Pt} (h : lineE a b p = 0) : ptOK a = true ∧ ptOK b = true ∧ ptOK p = true ∧ eqP a b = false := by
  unfold lineE at h
  (repeat' split at h) <;> first | (cases h; done) | skip
  rename_i h1 h2
  obtain ⟨x, y, z⟩ := ok3 ((Bool.eq_false_or_eq_true _).resolve_right h1)
  exact ⟨x, y, z, by simpa using h2⟩
theorem c_Offset (a b p : Pt) : Contract Tryz.prog 84 [.agg (encPt a), .agg (encPt b), .agg (encPt p)] (.ret (.tup [.int .i64 (offX a b p), .int .i64 (lineE a b p)])) := by
  have hl := c_lineErr a b p
  unfold offX
  by_cases hz : lineE a b p = 0
  · obtain ⟨ha, hb, hp, hne⟩ := line_ok hz
    have ho := c_offset a b p ha hb hp hne
    rw [if_pos hz]
    rw [hz] at hl ⊢
    refine contract_of mix Tryz.func84 rfl rfl (by rw [Tryz.ntmps84]; exact Nat.le_of_ble_eq_true rfl) ?_; rw [Tryz.results84, Tryz.ntmps84]; simp only [argsE, Nat.reduceAdd]
    repeat' first
           | (with_reducible apply go_op)
           | (with_reducible apply go_next)
           | ((with_reducible (show evOp _ _ _ _ _ _)); first
             | (((with_reducible apply go_mv_int); rfl; rfl))
             | ((with_reducible apply go_as))
             | (((with_reducible apply go_ld_agg); rfl; rfl; rfl; rfl))
             | (((with_reducible apply go_cmp); rfl; rfl; rfl; rfl))
             | ((with_reducible (show evOp _ (.call _) _ _ _ _)) ; first | ((with_reducible apply go_fn_int); rfl; (exact hl); rfl) | ((with_reducible apply go_fn_int); rfl; (exact ho); rfl))
             | (((with_reducible apply go_bx_agg); rfl; rfl; (exact Nat.le_of_ble_eq_true rfl); rfl; rfl)))
           | ((with_reducible (show evOps _ _ _ _ _ _)); first
             | (with_reducible apply go_nil))
           | ((with_reducible (show evG _ _ _ _ _)); first
             | (with_reducible apply go_seq)
             | (with_reducible apply go_region)
             | ((with_reducible apply go_cond_f); rfl; rfl)
             | (with_reducible apply go_ret)
             | (with_reducible apply go_skipc))
           | (with_reducible apply go_kseq)
           | ((with_reducible apply end_t2); rfl; rfl; rfl; rfl)
    all_goals first | rfl | (exfalso; omega)
  · rw [if_neg hz]
    refine contract_of mix Tryz.func84 rfl rfl (by rw [Tryz.ntmps84]; exact Nat.le_of_ble_eq_true rfl) ?_; rw [Tryz.results84, Tryz.ntmps84]; simp only [argsE, Nat.reduceAdd]
    repeat' first
           | (with_reducible apply go_op)
           | (with_reducible apply go_next)
           | ((with_reducible (show evOp _ _ _ _ _ _)); first
             | (((with_reducible apply go_mv_int); rfl; rfl))
             | ((with_reducible apply go_as))
             | (((with_reducible apply go_ld_agg); rfl; rfl; rfl; rfl))
             | (((with_reducible apply go_cmp); rfl; rfl; rfl; rfl))
             | (((with_reducible apply go_fn_int); rfl; (exact hl); rfl))
             | (((with_reducible apply go_bx_agg); rfl; rfl; (exact Nat.le_of_ble_eq_true rfl); rfl; rfl)))
           | ((with_reducible (show evOps _ _ _ _ _ _)); first
             | (with_reducible apply go_nil))
           | ((with_reducible (show evG _ _ _ _ _)); first
             | (with_reducible apply go_seq)
             | (with_reducible apply go_region)
             | (((with_reducible apply go_cond); rfl) <;> (intro h; simp only [h]; try simp only [decide_eq_true_eq, decide_eq_false_iff_not, Bool.not_eq_true', Bool.not_eq_false', Bool.not_true, Bool.not_false] at h; try exact absurd trivial h))
             | (with_reducible apply go_ret)
             | (with_reducible apply go_skipc))
           | (with_reducible apply go_kseq)
           | (with_reducible apply go_kseq_ret)
           | ((with_reducible apply end_t2); rfl; rfl; rfl; rfl)
    all_goals first | rfl | (exfalso; omega)
def quarP (p : Pt) : Pt := ⟨0 - p.y, p.x⟩
theorem quar_ok {p : Pt} (h : ptOK p = true) : ptOK (quarP p) = true := by
  have := pt_bd h
  rw [ptOK, decide_eq_true_eq]
  show (-1000000 ≤ 0 - p.y ∧ 0 - p.y ≤ 1000000) ∧ (-1000000 ≤ p.x ∧ p.x ≤ 1000000)
  omega
end Go.Pv.Geo

open Go Go.Proofs Go.Pv
set_option maxHeartbeats 4000000
set_option maxRecDepth 100000
set_option linter.unusedVariables false
set_option linter.unusedSimpArgs false
namespace Go.Pv.Soil
theorem abs_mul {a b A B : Int} (ha : -A ≤ a ∧ a ≤ A) (hb : 0 ≤ b ∧ b ≤ B) : -(A * B) ≤ a * b ∧ a * b ≤ A * B := by
  have hA : 0 ≤ A := by omega
  have h1 : a * b ≤ A * b := Int.mul_le_mul_of_nonneg_right ha.2 hb.1
  have h2 : -A * b ≤ a * b := Int.mul_le_mul_of_nonneg_right ha.1 hb.1
  have h3 : A * b ≤ A * B := Int.mul_le_mul_of_nonneg_left hb.2 hA
  have h4 : -A * b = -(A * b) := Int.neg_mul ..
  omega
theorem mix_bd {u v s d lo hi : Int} (hu : lo ≤ u ∧ u ≤ hi) (hv : lo ≤ v ∧ v ≤ hi) (hd : 0 ≤ d ∧ d ≤ s) (hs : 0 < s ∧ s ≤ 8000000000000) (hl : -100000 ≤ lo ∧ hi ≤ 100000) :
    (-800000000000000000 ≤ u * (s - d) ∧ u * (s - d) ≤ 800000000000000000) ∧ (-800000000000000000 ≤ v * d ∧ v * d ≤ 800000000000000000) ∧ lo ≤ (u * (s - d) + v * d) / s ∧ (u * (s - d) + v * d) / s ≤ hi := by
  have h1 := abs_mul (a := u) (b := s - d) (A := 100000) (B := 8000000000000) (by omega) (by omega)
  have h2 := abs_mul (a := v) (b := d) (A := 100000) (B := 8000000000000) (by omega) (by omega)
  have h3 : lo * (s - d) ≤ u * (s - d) := Int.mul_le_mul_of_nonneg_right hu.1 (by omega)
  have h4 : u * (s - d) ≤ hi * (s - d) := Int.mul_le_mul_of_nonneg_right hu.2 (by omega)
  have h5 : lo * d ≤ v * d := Int.mul_le_mul_of_nonneg_right hv.1 (by omega)
  have h6 : v * d ≤ hi * d := Int.mul_le_mul_of_nonneg_right hv.2 (by omega)
  have e1 : lo * (s - d) = lo * s - lo * d := Int.mul_sub ..
  have e2 : hi * (s - d) = hi * s - hi * d := Int.mul_sub ..
  refine ⟨by omega, by omega, Int.le_ediv_of_mul_le hs.1 (by omega), Int.ediv_le_of_le_mul hs.1 (by omega)⟩
theorem off_bd {a b p : Geo.Pt} (ha : Geo.ptOK a = true) (hb : Geo.ptOK b = true) (hp : Geo.ptOK p = true) : 0 ≤ Geo.offX a b p ∧ Geo.offX a b p ≤ 10000000000000 := by
  unfold Geo.offX
  split
  · have hsq := Geo.sqE_bd ha hb
    have hsp := (Geo.span_is hsq.2).1.1
    have ha' := of_decide_eq_true ha
    have hb' := of_decide_eq_true hb
    have hp' := of_decide_eq_true hp
    have m1 := Geo.mul4 (u := b.x - a.x) (v := p.y - a.y) (by omega) (by omega)
    have m2 := Geo.mul4 (u := b.y - a.y) (v := p.x - a.x) (by omega) (by omega)
    have hc : Geo.absE (Geo.crossE a b p) ≤ 8000000000000 := Geo.absE_le (by unfold Geo.crossE; omega)
    have hn := Geo.absE_nn (Geo.crossE a b p)
    have h1 := Int.ediv_le_self (Geo.spanE (Geo.sqE a b)) hn
    have h2 := Int.ediv_nonneg hn hsp
    unfold Geo.offE
    omega
  · omega
def legB (a b : Axp) (p : Geo.Pt) : Bool := decide (0 ≤ dotD a b p ∧ dotD a b p ≤ dotS a b)
noncomputable def legP (a b : Axp) (p : Geo.Pt) : XPart := if legB a b p = true then ⟨Geo.offX (axPt a) (axPt b) p, (a.half * (dotS a b - dotD a b p) + b.half * dotD a b p) / dotS a b, (a.level * (dotS a b - dotD a b p) + b.level * dotD a b p) / dotS a b, a.run⟩ else ⟨0, 0, 0, 0⟩
theorem dotS_pos {a b : Axp} (h : ¬ (b.x = a.x ∧ b.y = a.y)) : 0 < dotS a b := by
  have h1 := sq_nonneg' (b.x - a.x)
  have h2 := sq_nonneg' (b.y - a.y)
  unfold dotS
  rcases Int.lt_or_le 0 ((b.x - a.x) * (b.x - a.x)) with h3 | h3
  · omega
  · rcases Int.lt_or_le 0 ((b.y - a.y) * (b.y - a.y)) with h4 | h4
    · omega
    · exfalso
      have e1 : (b.x - a.x) * (b.x - a.x) = 0 := by omega
      have e2 : (b.y - a.y) * (b.y - a.y) = 0 := by omega
      rcases Int.mul_eq_zero.1 e1 with e | e <;> rcases Int.mul_eq_zero.1 e2 with e' | e' <;> exact h (by omega)
theorem dotS_le {a b : Axp} (ha : -1000000 ≤ a.x ∧ a.x ≤ 1000000) (ha2 : -1000000 ≤ a.y ∧ a.y ≤ 1000000) (hb : -1000000 ≤ b.x ∧ b.x ≤ 1000000) (hb2 : -1000000 ≤ b.y ∧ b.y ≤ 1000000) : dotS a b ≤ 8000000000000 := by
  have m3 := Geo.mul4 (u := b.x - a.x) (v := b.x - a.x) (by omega) (by omega)
  have m4 := Geo.mul4 (u := b.y - a.y) (v := b.y - a.y) (by omega) (by omega)
  unfold dotS
  omega
theorem leg_ok {o : Int} {a b : Axp} {p : Geo.Pt} (ho : 0 ≤ o) (ha : axpOK o a = true) (hb : axpOK o b = true) (hp : Geo.ptOK p = true) (hne : ¬ (b.x = a.x ∧ b.y = a.y)) (h : legB a b p = true) :
    xpartOK (legP a b p) ∧ ∀ m : Int, -20000 ≤ m → m ≤ a.level → m ≤ b.level → m ≤ (legP a b p).bottom := by
  have ha' := of_decide_eq_true ha
  have hb' := of_decide_eq_true hb
  have hS := dotS_pos hne
  have hS' := dotS_le ha'.1.1 ha'.1.2 hb'.1.1 hb'.1.2
  have hd := of_decide_eq_true h
  have m1 := mix_bd (u := a.half) (v := b.half) (s := dotS a b) (d := dotD a b p) (lo := 0) (hi := 100000) (by omega) (by omega) hd ⟨hS, hS'⟩ (by omega)
  have m2 := mix_bd (u := a.level) (v := b.level) (s := dotS a b) (d := dotD a b p) (lo := -20000) (hi := 20000) (by omega) (by omega) hd ⟨hS, hS'⟩ (by omega)
  have m3 := off_bd (a := axPt a) (b := axPt b) (p := p) (decide_eq_true ha'.1) (decide_eq_true hb'.1) hp
  unfold legP
  rw [if_pos h]
  refine ⟨⟨m3, m1.2.2, m2.2.2, ha'.2.2.2⟩, fun m hm h1 h2 => ?_⟩
  have := mix_bd (u := a.level) (v := b.level) (s := dotS a b) (d := dotD a b p) (lo := m) (hi := 20000) (by omega) (by omega) hd ⟨hS, hS'⟩ (by omega)
  exact this.2.2.1
theorem h_onLeg (c : Chan) (hc : OkChan c) (k : Nat) (hk : k + 1 < c.axis.length) (p : Geo.Pt) (hp : Geo.ptOK p = true) :
    Contract Tryz.prog 68 [.agg (encChan c), .int .i64 k, .agg (Geo.encPt p)] (.ret (.tup [.agg (encXP (legP c.axis[k] c.axis[k + 1] p)), .bool (legB c.axis[k] c.axis[k + 1] p)])) := by
  have hp' := of_decide_eq_true hp
  have hdot := h_dot c hc k hk p hp'
  have hne := hc.next k hk
  have ej : ((k : Int) + 1).toNat = k + 1 := by omega
  obtain ⟨j, hj, hjl⟩ : ∃ j, j = ((k : Int) + 1).toNat ∧ j < c.axis.length := ⟨_, rfl, by omega⟩
  have er : c.axis[k + 1] = c.axis[j] := by simp only [hj, ej]
  rw [er] at hdot hne ⊢
  subst hj
  have hl := hc.len
  have hov := hc.ov
  have ha := hc.axp c.axis[k] (List.getElem_mem _)
  have hb := hc.axp (c.axis[((k : Int) + 1).toNat]) (List.getElem_mem _)
  have ha' := of_decide_eq_true ha
  have hb' := of_decide_eq_true hb
  have hS := dotS_pos hne
  have hS' := dotS_le ha'.1.1 ha'.1.2 hb'.1.1 hb'.1.2
  have h0 := Geo.c_Offset (axPt c.axis[k]) (axPt (c.axis[((k : Int) + 1).toNat])) p
  have q1 := h_place c.axis[k]
  have q2 := h_place (c.axis[((k : Int) + 1).toNat])
  unfold legP legB
  generalize Geo.offX (axPt c.axis[k]) (axPt (c.axis[((k : Int) + 1).toNat])) p = O at *
  generalize Geo.lineE (axPt c.axis[k]) (axPt (c.axis[((k : Int) + 1).toNat])) p = E at *
  generalize dotS c.axis[k] (c.axis[((k : Int) + 1).toNat]) = S at *
  generalize dotD c.axis[k] (c.axis[((k : Int) + 1).toNat]) p = D at *
  by_cases hd : 0 ≤ D ∧ D ≤ S
  · have m1 := mix_bd (u := c.axis[k].half) (v := (c.axis[((k : Int) + 1).toNat]).half) (s := S) (d := D) (lo := 0) (hi := 100000) (by omega) (by omega) hd ⟨hS, hS'⟩ (by omega)
    have m2 := mix_bd (u := c.axis[k].level) (v := (c.axis[((k : Int) + 1).toNat]).level) (s := S) (d := D) (lo := -20000) (hi := 20000) (by omega) (by omega) hd ⟨hS, hS'⟩ (by omega)
    rw [decide_eq_true hd, if_pos rfl]
    clear ha hb hne
    refine contract_of mix Tryz.func68 rfl rfl (by rw [Tryz.ntmps68]; exact Nat.le_of_ble_eq_true rfl) ?_; rw [Tryz.results68, Tryz.ntmps68]; simp only [argsE, Nat.reduceAdd]
    refine go_seq ?_
    repeat' first
           | (with_reducible apply go_op)
           | (with_reducible apply go_next)
           | ((with_reducible (show evOp _ _ _ _ _ _)); first
             | (((with_reducible apply go_mv_bool); rfl; rfl))
             | ((with_reducible apply go_as))
             | (((with_reducible apply go_bx_agg); rfl; rfl; (exact Nat.le_of_ble_eq_true rfl); rfl; rfl))
             | (((with_reducible apply go_alloc); rfl; rfl; rfl)))
           | ((with_reducible (show evOps _ _ _ _ _ _)); first
             | (with_reducible apply go_nil))
           | ((with_reducible (show evG _ _ _ _ _)); first
             | (with_reducible apply go_region))
           | (with_reducible apply go_kseq)
    refine go_seq ?_
    repeat' first
           | (with_reducible apply go_op)
           | (with_reducible apply go_next)
           | ((with_reducible (show evOp _ _ _ _ _ _)); first
             | ((with_reducible (show evOp _ (.move _) _ _ _ _)) ; first | ((with_reducible apply go_mv_int); rfl; rfl) | ((with_reducible apply go_mv_tup); rfl; rfl))
             | ((with_reducible apply go_as))
             | (((with_reducible apply go_ld_agg); rfl; rfl; rfl; rfl))
             | (((with_reducible apply go_fn_plain); rfl; (exact hdot); rfl; (exact Nat.le_of_ble_eq_true rfl); rfl))
             | (((with_reducible apply go_extract); rfl; rfl)))
           | ((with_reducible (show evOps _ _ _ _ _ _)); first
             | (with_reducible apply go_nil))
           | ((with_reducible (show evG _ _ _ _ _)); first
             | (with_reducible apply go_region))
           | (with_reducible apply go_kseq)
    refine go_seq ?_
    skip
    refine go_seq ?_
    repeat' first
           | (with_reducible apply go_op)
           | (with_reducible apply go_next)
           | ((with_reducible (show evOp _ _ _ _ _ _)); first
             | ((with_reducible (show evOp _ (.move _) _ _ _ _)) ; first | ((with_reducible apply go_mv_int); rfl; rfl) | ((with_reducible apply go_mv_bool); rfl; rfl))
             | (((with_reducible apply go_cmp); rfl; rfl; rfl; rfl))
             | (((with_reducible apply go_pick); rfl; rfl; rfl)))
           | ((with_reducible (show evOps _ _ _ _ _ _)); first
             | (with_reducible apply go_nil)
             | ((with_reducible apply go_run); rfl; rfl)
             | ((with_reducible apply go_pass); rfl; rfl; rfl)
             | (((with_reducible apply go_guard); rfl) <;> (intro h; simp only [h, Bool.not_true, Bool.not_false]; (try with_reducible (refine ⟨rfl, ?_⟩)); try simp only [decide_eq_true_eq, decide_eq_false_iff_not, Bool.not_eq_true', Bool.not_eq_false', Bool.not_true, Bool.not_false] at h; try exact absurd trivial h)))
           | ((with_reducible (show evG _ _ _ _ _)); first
             | (with_reducible apply go_region)
             | ((with_reducible apply go_cond_t); rfl; rfl)
             | (((with_reducible apply go_cond); rfl) <;> (intro h; simp only [h]; try simp only [decide_eq_true_eq, decide_eq_false_iff_not, Bool.not_eq_true', Bool.not_eq_false', Bool.not_true, Bool.not_false] at h; try exact absurd trivial h))
             | (with_reducible apply go_skipc))
           | (with_reducible apply go_kseq)
    all_goals try (exfalso; omega)
    refine Or.inr ⟨⟨[(11, .op 3 0 0), (10, .op 2 0 0), (9, .int .i64 S), (8, .int .i64 D), (7, .bool false), (6, .op 1 0 0), (5, .op 0 0 0)], [(0, ⟨2, true, [Geo.encPt p]⟩), (1, ⟨4, true, [[.int .i64 0, .int .i64 0, .int .i64 0, .int .i64 0]]⟩), (2, ⟨5, true, [encAxp c.axis[k]]⟩), (3, ⟨5, true, [encAxp (c.axis[((k : Int) + 1).toNat])]⟩)], 32, 79⟩, ?_, ?_⟩
    · repeat' first
           | (with_reducible apply go_op)
           | (with_reducible apply go_next)
           | ((with_reducible (show evOp _ _ _ _ _ _)); first
             | (((with_reducible apply go_mv_int); rfl; rfl))
             | ((with_reducible (show evOp _ (.load _ _) _ _ _ _)) ; first | ((with_reducible apply go_ld_ptr); rfl; rfl; rfl) | ((with_reducible apply go_load_own); rfl; rfl; rfl; rfl))
             | (((with_reducible apply go_fieldAddr_own); rfl; rfl; rfl))
             | ((with_reducible (show evOp _ (.indexAddr _ _ _) _ _ _ _)) ; first | ((with_reducible apply go_index_nat); rfl; rfl; (with_reducible rfl); (intro; rfl); rfl; omega; (intro hlt)) | ((with_reducible apply go_index); rfl; rfl; (intro; rfl); rfl; omega; intro hlt))
             | (((with_reducible apply go_add); rfl; rfl; rfl; omega))
             | (((with_reducible apply go_st_agg); rfl; rfl; rfl; rfl; rfl; rfl; rfl))
             | (((with_reducible apply go_alloc); rfl; rfl; rfl)))
           | ((with_reducible (show evOps _ _ _ _ _ _)); first
             | (with_reducible apply go_nil)
             | (with_reducible apply go_take)
             | (with_reducible apply go_take0))
           | ((with_reducible (show evG _ _ _ _ _)); first
             | ((with_reducible apply (go_drawL 13 [[5, 6, 7, 8, 9, 10], []])); decide +kernel; rfl))
           | (with_reducible apply go_klined)
           | (with_reducible apply go_line_drop)
           | (with_reducible apply go_line_drop0)
           | (with_reducible apply go_line)
           | (with_reducible apply go_line_nil)
           | (with_reducible apply go_kln)
           | (with_reducible apply go_again_nil)
           | ((with_reducible apply go_again); rfl; (intro id'))
           | ((with_reducible apply go_kagain); rfl)
           | (with_reducible apply go_kseq)
      exact entails_eq (nx := 32) (k := 1) (ns := []) (ks := [11, 10, 9, 8, 7, 6, 5]) [(32, 0), (64, 1), (992, 2), (1024, 3)] rfl (by simp) (by kernel_rfl)
    · clear hdot
      generalize c.axis[k] = u at *
      generalize c.axis[((k : Int) + 1).toNat] = v at *
      refine Or.inr ⟨⟨[(12, .int .i64 O), (11, .op 3 0 0), (10, .op 2 0 0), (9, .int .i64 S), (8, .int .i64 D), (7, .bool false), (6, .op 1 0 0)], [(1, ⟨4, true, [[.int .i64 0, .int .i64 0, .int .i64 0, .int .i64 0]]⟩), (2, ⟨5, true, [encAxp u]⟩), (3, ⟨5, true, [encAxp v]⟩)], 32, 79⟩, ?_, ?_⟩
      · repeat' first
           | (with_reducible apply go_op)
           | (with_reducible apply go_next)
           | ((with_reducible (show evOp _ _ _ _ _ _)); first
             | ((with_reducible (show evOp _ (.move _) _ _ _ _)) ; first | ((with_reducible apply go_mv_int); rfl; rfl) | ((with_reducible apply go_mv_tup); rfl; rfl))
             | ((with_reducible apply go_as))
             | (((with_reducible apply go_ld_agg); rfl; rfl; rfl; rfl))
             | ((with_reducible (show evOp _ (.call _) _ _ _ _)) ; first | ((with_reducible apply go_fn_plain); rfl; (exact q1); rfl; (exact Nat.le_of_ble_eq_true rfl); rfl) | ((with_reducible apply go_fn_plain); rfl; (exact q2); rfl; (exact Nat.le_of_ble_eq_true rfl); rfl) | ((with_reducible apply go_fn_plain); rfl; (exact h0); rfl; (exact Nat.le_of_ble_eq_true rfl); rfl))
             | (((with_reducible apply go_extract); rfl; rfl)))
           | ((with_reducible (show evOps _ _ _ _ _ _)); first
             | (with_reducible apply go_nil)
             | ((with_reducible apply go_pre); rfl)
             | (with_reducible apply go_pre_nil)
             | ((with_reducible apply go_suf); rfl)
             | (with_reducible apply go_suf_nil))
           | ((with_reducible (show evG _ _ _ _ _)); first
             | ((with_reducible apply go_order); kernel_rfl; rfl))
           | (with_reducible apply go_kseq)
           | (with_reducible apply go_ksuf)
        exact entails_eq (nx := 32) (k := 1) (ns := []) (ks := [12, 11, 10, 9, 8, 7, 6]) [(1, 1), (2, 2), (3, 3)] rfl (by simp) (by kernel_rfl)
      · repeat' first
           | ((with_reducible apply go_bd4_int); rfl; rfl; rfl; rfl; rfl; rfl)
           | (with_reducible apply go_op)
           | (with_reducible apply go_next)
           | ((with_reducible (show evOp _ _ _ _ _ _)); first
             | ((with_reducible (show evOp _ (.move _) _ _ _ _)) ; first | ((with_reducible apply go_mv_int); rfl; rfl) | ((with_reducible apply go_mv_bool); rfl; rfl))
             | ((with_reducible apply go_as))
             | (((with_reducible apply go_load_own); rfl; rfl; rfl; rfl))
             | (((with_reducible apply go_fieldAddr_own); rfl; rfl; rfl))
             | ((with_reducible (show evOp _ (.binOp _ _ _ _ _) _ _ _ _)) ; first | ((with_reducible apply go_add); rfl; rfl; rfl; omega) | ((with_reducible apply go_sub); rfl; rfl; rfl; omega) | ((with_reducible apply go_mul); rfl; rfl; rfl; omega))
             | (((with_reducible apply go_fn_int); rfl; (exact h_down _ _ hS (by omega)); rfl))
             | (((with_reducible apply go_st_agg); rfl; rfl; rfl; rfl; rfl; rfl; rfl)))
           | ((with_reducible (show evOps _ _ _ _ _ _)); first
             | (with_reducible apply go_nil)
             | ((with_reducible apply go_pre); rfl)
             | ((with_reducible apply go_pre_stop); rfl)
             | ((with_reducible apply go_suf); rfl)
             | ((with_reducible apply go_suf_stop); rfl))
           | ((with_reducible (show evG _ _ _ _ _)); first
             | (with_reducible apply go_seq)
             | ((with_reducible apply go_order); kernel_rfl; rfl)
             | (with_reducible apply go_ret))
           | (with_reducible apply go_kseq)
           | (with_reducible apply go_ksuf)
           | ((with_reducible apply end_t2); rfl; rfl; rfl; rfl)
        all_goals (rw [show Tryz.prog.cellsOf 96 = 4 by kernel_rfl]; rfl)
  · rw [decide_eq_false hd, if_neg Bool.false_ne_true]
    refine contract_of mix Tryz.func68 rfl rfl (by rw [Tryz.ntmps68]; exact Nat.le_of_ble_eq_true rfl) ?_; rw [Tryz.results68, Tryz.ntmps68]; simp only [argsE, Nat.reduceAdd]
    repeat' first
           | (with_reducible apply go_op)
           | (with_reducible apply go_next)
           | ((with_reducible (show evOp _ _ _ _ _ _)); first
             | ((with_reducible (show evOp _ (.move _) _ _ _ _)) ; first | ((with_reducible apply go_mv_int); rfl; rfl) | ((with_reducible apply go_mv_bool); rfl; rfl) | ((with_reducible apply go_mv_tup); rfl; rfl))
             | ((with_reducible apply go_as))
             | ((with_reducible (show evOp _ (.load _ _) _ _ _ _)) ; first | ((with_reducible apply go_ld_ptr); rfl; rfl; rfl) | ((with_reducible apply go_ld_agg); rfl; rfl; rfl; rfl) | ((with_reducible apply go_load_own); rfl; rfl; rfl; rfl))
             | (((with_reducible apply go_fieldAddr_own); rfl; rfl; rfl))
             | ((with_reducible (show evOp _ (.indexAddr _ _ _) _ _ _ _)) ; first | ((with_reducible apply go_index_nat); rfl; rfl; (with_reducible rfl); (intro; rfl); rfl; omega; (intro hlt)) | ((with_reducible apply go_index); rfl; rfl; (intro; rfl); rfl; omega; intro hlt))
             | ((with_reducible (show evOp _ (.binOp _ _ _ _ _) _ _ _ _)) ; first | ((with_reducible apply go_cmp); rfl; rfl; rfl; rfl) | ((with_reducible apply go_add); rfl; rfl; rfl; omega))
             | (((with_reducible apply go_fn_plain); rfl; (exact hdot); rfl; (exact Nat.le_of_ble_eq_true rfl); rfl))
             | (((with_reducible apply go_st_agg); rfl; rfl; rfl; rfl; rfl; rfl; rfl))
             | (((with_reducible apply go_extract); rfl; rfl))
             | (((with_reducible apply go_pick); rfl; rfl; rfl))
             | (((with_reducible apply go_build); rfl; rfl))
             | (((with_reducible apply go_bx_agg); rfl; rfl; (exact Nat.le_of_ble_eq_true rfl); rfl; rfl))
             | (((with_reducible apply go_alloc); rfl; rfl; rfl)))
           | ((with_reducible (show evOps _ _ _ _ _ _)); first
             | (with_reducible apply go_nil)
             | ((with_reducible apply go_run); rfl; rfl)
             | ((with_reducible apply go_pass); rfl; rfl; rfl)
             | (((with_reducible apply go_guard); rfl) <;> (intro h; simp only [h, Bool.not_true, Bool.not_false]; (try with_reducible (refine ⟨rfl, ?_⟩)); try simp only [decide_eq_true_eq, decide_eq_false_iff_not, Bool.not_eq_true', Bool.not_eq_false', Bool.not_true, Bool.not_false] at h; try exact absurd trivial h))
             | ((with_reducible apply go_pre); rfl)
             | (with_reducible apply go_take)
             | (with_reducible apply go_take0))
           | ((with_reducible (show evG _ _ _ _ _)); first
             | (with_reducible apply go_seq)
             | (with_reducible apply go_region)
             | ((with_reducible apply go_cond_t); rfl; rfl)
             | (((with_reducible apply go_cond); rfl) <;> (intro h; simp only [h]; try simp only [decide_eq_true_eq, decide_eq_false_iff_not, Bool.not_eq_true', Bool.not_eq_false', Bool.not_true, Bool.not_false] at h; try exact absurd trivial h))
             | ((with_reducible apply (go_drawL 13 [[5, 6, 7, 8, 9, 10], []])); decide +kernel; rfl)
             | ((with_reducible apply go_order); kernel_rfl; rfl)
             | (with_reducible apply go_ret)
             | (with_reducible apply go_skipc))
           | (with_reducible apply go_klined)
           | (with_reducible apply go_line_drop)
           | (with_reducible apply go_line_drop0)
           | (with_reducible apply go_line)
           | (with_reducible apply go_line_nil)
           | (with_reducible apply go_kln)
           | (with_reducible apply go_again_nil)
           | ((with_reducible apply go_again); rfl; (intro id'))
           | ((with_reducible apply go_kagain); rfl)
           | (with_reducible apply go_kseq)
           | (with_reducible apply go_kseq_ret)
           | ((with_reducible apply end_t2); rfl; rfl; rfl; rfl)
    all_goals first | (rw [show Tryz.prog.cellsOf 96 = 4 by kernel_rfl]; rfl) | (exfalso; omega) | trace_state
end Go.Pv.Soil

open Go Go.Proofs Go.Pv
set_option maxHeartbeats 4000000
set_option maxRecDepth 100000
set_option linter.unusedVariables false
set_option linter.unusedSimpArgs false
namespace Go.Pv.Soil
def bendB (a q b : Axp) (p : Geo.Pt) : Bool := decide (dotS a q < dotD a q p ∧ dotD q b p < 0)
noncomputable def bendP (a q b : Axp) (p : Geo.Pt) : XPart := if bendB a q b p = true then ⟨Geo.spanX (axPt q) p, q.half, q.level, q.run⟩ else ⟨0, 0, 0, 0⟩
theorem span_bd {a b : Geo.Pt} : 0 ≤ Geo.spanX a b ∧ Geo.spanX a b ≤ 4000000 := by
  unfold Geo.spanX
  split
  · rename_i h
    rw [Bool.and_eq_true] at h
    have hsq := Geo.sqE_bd h.1 h.2
    have := Geo.span_is hsq.2
    exact ⟨this.1.1, this.2⟩
  · omega
theorem bend_ok {o : Int} {a q b : Axp} {p : Geo.Pt} (ho : 0 ≤ o) (hq : axpOK o q = true) (h : bendB a q b p = true) :
    xpartOK (bendP a q b p) ∧ (bendP a q b p).bottom = q.level := by
  have hq' := of_decide_eq_true hq
  have := span_bd (a := axPt q) (b := p)
  unfold bendP
  rw [if_pos h]
  refine ⟨⟨⟨this.1, by show Geo.spanX _ _ ≤ _; omega⟩, ⟨by show 0 ≤ q.half; omega, hq'.2.1.2⟩, ⟨by show -20000 ≤ q.level; omega, hq'.2.2.1.2⟩, hq'.2.2.2⟩, rfl⟩
theorem h_onBend (c : Chan) (hc : OkChan c) (i : Nat) (hk : i + 2 < c.axis.length) (p : Geo.Pt) (hp : Geo.ptOK p = true) :
    Contract Tryz.prog 69 [.agg (encChan c), .int .i64 ((i : Int) + 1), .agg (Geo.encPt p)] (.ret (.tup [.agg (encXP (bendP c.axis[i] c.axis[i + 1] c.axis[i + 2] p)), .bool (bendB c.axis[i] c.axis[i + 1] c.axis[i + 2] p)])) := by
  have hp' := of_decide_eq_true hp
  have d1 : Contract Tryz.prog 83 [.agg (encChan c), .int .i64 ((i : Int) + 1 - 1), .agg (Geo.encPt p)] (.ret (.tup [.int .i64 (dotD c.axis[i] c.axis[i + 1] p), .int .i64 (dotS c.axis[i] c.axis[i + 1])])) := by
    rw [show (i : Int) + 1 - 1 = (i : Int) by omega]
    exact h_dot c hc i (by omega) p hp'
  have d2 : Contract Tryz.prog 83 [.agg (encChan c), .int .i64 ((i : Int) + 1), .agg (Geo.encPt p)] (.ret (.tup [.int .i64 (dotD c.axis[i + 1] c.axis[i + 2] p), .int .i64 (dotS c.axis[i + 1] c.axis[i + 2])])) := h_dot c hc (i + 1) (by omega) p hp'
  have ej : ((i : Int) + 1).toNat = i + 1 := by omega
  have hs := Geo.c_Span (axPt c.axis[i + 1]) p
  obtain ⟨j, hj, hjl⟩ : ∃ j, j = ((i : Int) + 1).toNat ∧ j < c.axis.length := ⟨_, rfl, by omega⟩
  have er : c.axis[i + 1] = c.axis[j] := by simp only [hj, ej]
  rw [er] at d1 d2 hs ⊢
  subst hj
  have hl := hc.len
  have q1 := h_place (c.axis[((i : Int) + 1).toNat])
  unfold bendP bendB
  generalize Geo.spanX (axPt (c.axis[((i : Int) + 1).toNat])) p = O at *
  generalize dotS c.axis[i] (c.axis[((i : Int) + 1).toNat]) = S at *
  generalize dotD c.axis[i] (c.axis[((i : Int) + 1).toNat]) p = D at *
  generalize dotD (c.axis[((i : Int) + 1).toNat]) c.axis[i + 2] p = D2 at *
  generalize dotS (c.axis[((i : Int) + 1).toNat]) c.axis[i + 2] = S2 at *
  by_cases hd : S < D ∧ D2 < 0
  · rw [decide_eq_true hd, if_pos rfl]
    refine contract_of mix Tryz.func69 rfl rfl (by rw [Tryz.ntmps69]; exact Nat.le_of_ble_eq_true rfl) ?_; rw [Tryz.results69, Tryz.ntmps69]; simp only [argsE, Nat.reduceAdd]
    repeat' first
           | ((with_reducible apply go_bd4_int); rfl; rfl; rfl; rfl; rfl; rfl)
           | (with_reducible apply go_op)
           | (with_reducible apply go_next)
           | ((with_reducible (show evOp _ _ _ _ _ _)); first
             | ((with_reducible (show evOp _ (.move _) _ _ _ _)) ; first | ((with_reducible apply go_mv_int); rfl; rfl) | ((with_reducible apply go_mv_bool); rfl; rfl) | ((with_reducible apply go_mv_tup); rfl; rfl))
             | ((with_reducible apply go_as))
             | ((with_reducible (show evOp _ (.load _ _) _ _ _ _)) ; first | ((with_reducible apply go_ld_ptr); rfl; rfl; rfl) | ((with_reducible apply go_ld_agg); rfl; rfl; rfl; rfl) | ((with_reducible apply go_load_own); rfl; rfl; rfl; rfl))
             | (((with_reducible apply go_fieldAddr_own); rfl; rfl; rfl))
             | (((with_reducible apply go_index); rfl; rfl; (intro; rfl); rfl; omega; intro hlt))
             | ((with_reducible (show evOp _ (.binOp _ _ _ _ _) _ _ _ _)) ; first | ((with_reducible apply go_cmp); rfl; rfl; rfl; rfl) | ((with_reducible apply go_sub); rfl; rfl; rfl; omega))
             | ((with_reducible (show evOp _ (.call _) _ _ _ _)) ; first | ((with_reducible apply go_fn_plain); rfl; (exact d1); rfl; (exact Nat.le_of_ble_eq_true rfl); rfl) | ((with_reducible apply go_fn_plain); rfl; (exact d2); rfl; (exact Nat.le_of_ble_eq_true rfl); rfl) | ((with_reducible apply go_fn_plain); rfl; (exact q1); rfl; (exact Nat.le_of_ble_eq_true rfl); rfl) | ((with_reducible apply go_fn_int); rfl; (exact hs); rfl))
             | (((with_reducible apply go_st_agg); rfl; rfl; rfl; rfl; rfl; rfl; rfl))
             | (((with_reducible apply go_extract); rfl; rfl))
             | (((with_reducible apply go_pick); rfl; rfl; rfl))
             | (((with_reducible apply go_build); rfl; rfl))
             | (((with_reducible apply go_bx_agg); rfl; rfl; (exact Nat.le_of_ble_eq_true rfl); rfl; rfl))
             | (((with_reducible apply go_alloc); rfl; rfl; rfl)))
           | ((with_reducible (show evOps _ _ _ _ _ _)); first
             | (with_reducible apply go_nil)
             | ((with_reducible apply go_run); rfl; rfl)
             | ((with_reducible apply go_pass); rfl; rfl; rfl)
             | (((with_reducible apply go_guard); rfl) <;> (intro h; simp only [h, Bool.not_true, Bool.not_false]; (try with_reducible (refine ⟨rfl, ?_⟩)); try simp only [decide_eq_true_eq, decide_eq_false_iff_not, Bool.not_eq_true', Bool.not_eq_false', Bool.not_true, Bool.not_false] at h; try exact absurd trivial h))
             | ((with_reducible apply go_pre); rfl)
             | ((with_reducible apply go_pre_stop); rfl)
             | ((with_reducible apply go_suf); rfl)
             | ((with_reducible apply go_suf_stop); rfl))
           | ((with_reducible (show evG _ _ _ _ _)); first
             | (with_reducible apply go_seq)
             | (with_reducible apply go_region)
             | ((with_reducible apply go_cond_t); rfl; rfl)
             | (((with_reducible apply go_cond); rfl) <;> (intro h; simp only [h]; try simp only [decide_eq_true_eq, decide_eq_false_iff_not, Bool.not_eq_true', Bool.not_eq_false', Bool.not_true, Bool.not_false] at h; try exact absurd trivial h))
             | ((with_reducible apply go_order); kernel_rfl; rfl)
             | (with_reducible apply go_ret)
             | (with_reducible apply go_skipc))
           | (with_reducible apply go_kseq)
           | (with_reducible apply go_ksuf)
           | (with_reducible apply go_kseq_ret)
           | ((with_reducible apply end_t2); rfl; rfl; rfl; rfl)
    all_goals first | (exfalso; omega) | (rw [show Tryz.prog.cellsOf 96 = 4 by kernel_rfl]; rfl) | trace_state
  · rw [decide_eq_false hd, if_neg Bool.false_ne_true]
    refine contract_of mix Tryz.func69 rfl rfl (by rw [Tryz.ntmps69]; exact Nat.le_of_ble_eq_true rfl) ?_; rw [Tryz.results69, Tryz.ntmps69]; simp only [argsE, Nat.reduceAdd]
    repeat' first
           | ((with_reducible apply go_bd4_int); rfl; rfl; rfl; rfl; rfl; rfl)
           | (with_reducible apply go_op)
           | (with_reducible apply go_next)
           | ((with_reducible (show evOp _ _ _ _ _ _)); first
             | ((with_reducible (show evOp _ (.move _) _ _ _ _)) ; first | ((with_reducible apply go_mv_int); rfl; rfl) | ((with_reducible apply go_mv_bool); rfl; rfl) | ((with_reducible apply go_mv_tup); rfl; rfl))
             | ((with_reducible apply go_as))
             | ((with_reducible (show evOp _ (.load _ _) _ _ _ _)) ; first | ((with_reducible apply go_ld_ptr); rfl; rfl; rfl) | ((with_reducible apply go_ld_agg); rfl; rfl; rfl; rfl) | ((with_reducible apply go_load_own); rfl; rfl; rfl; rfl))
             | (((with_reducible apply go_fieldAddr_own); rfl; rfl; rfl))
             | (((with_reducible apply go_index); rfl; rfl; (intro; rfl); rfl; omega; intro hlt))
             | ((with_reducible (show evOp _ (.binOp _ _ _ _ _) _ _ _ _)) ; first | ((with_reducible apply go_cmp); rfl; rfl; rfl; rfl) | ((with_reducible apply go_sub); rfl; rfl; rfl; omega))
             | ((with_reducible (show evOp _ (.call _) _ _ _ _)) ; first | ((with_reducible apply go_fn_plain); rfl; (exact d1); rfl; (exact Nat.le_of_ble_eq_true rfl); rfl) | ((with_reducible apply go_fn_plain); rfl; (exact d2); rfl; (exact Nat.le_of_ble_eq_true rfl); rfl) | ((with_reducible apply go_fn_plain); rfl; (exact q1); rfl; (exact Nat.le_of_ble_eq_true rfl); rfl) | ((with_reducible apply go_fn_int); rfl; (exact hs); rfl))
             | (((with_reducible apply go_st_agg); rfl; rfl; rfl; rfl; rfl; rfl; rfl))
             | (((with_reducible apply go_extract); rfl; rfl))
             | (((with_reducible apply go_pick); rfl; rfl; rfl))
             | (((with_reducible apply go_build); rfl; rfl))
             | (((with_reducible apply go_bx_agg); rfl; rfl; (exact Nat.le_of_ble_eq_true rfl); rfl; rfl))
             | (((with_reducible apply go_alloc); rfl; rfl; rfl)))
           | ((with_reducible (show evOps _ _ _ _ _ _)); first
             | (with_reducible apply go_nil)
             | ((with_reducible apply go_run); rfl; rfl)
             | ((with_reducible apply go_pass); rfl; rfl; rfl)
             | (((with_reducible apply go_guard); rfl) <;> (intro h; simp only [h, Bool.not_true, Bool.not_false]; (try with_reducible (refine ⟨rfl, ?_⟩)); try simp only [decide_eq_true_eq, decide_eq_false_iff_not, Bool.not_eq_true', Bool.not_eq_false', Bool.not_true, Bool.not_false] at h; try exact absurd trivial h))
             | ((with_reducible apply go_pre); rfl)
             | ((with_reducible apply go_pre_stop); rfl)
             | ((with_reducible apply go_suf); rfl)
             | ((with_reducible apply go_suf_stop); rfl))
           | ((with_reducible (show evG _ _ _ _ _)); first
             | (with_reducible apply go_seq)
             | (with_reducible apply go_region)
             | ((with_reducible apply go_cond_t); rfl; rfl)
             | (((with_reducible apply go_cond); rfl) <;> (intro h; simp only [h]; try simp only [decide_eq_true_eq, decide_eq_false_iff_not, Bool.not_eq_true', Bool.not_eq_false', Bool.not_true, Bool.not_false] at h; try exact absurd trivial h))
             | ((with_reducible apply go_order); kernel_rfl; rfl)
             | (with_reducible apply go_ret)
             | (with_reducible apply go_skipc))
           | (with_reducible apply go_kseq)
           | (with_reducible apply go_ksuf)
           | (with_reducible apply go_kseq_ret)
           | ((with_reducible apply end_t2); rfl; rfl; rfl; rfl)
    all_goals first | (exfalso; omega) | (rw [show Tryz.prog.cellsOf 96 = 4 by kernel_rfl]; rfl) | trace_state
end Go.Pv.Soil

open Go Go.Proofs Go.Pv
set_option maxHeartbeats 2000000
set_option maxRecDepth 100000
set_option linter.unusedSimpArgs false
set_option linter.unusedVariables false
namespace Go.Pv.Soil

/-- The first number of a list that is not 0, or 0. -/
def firstOf : List Int → Int
  | [] => 0
  | x :: l => if x ≠ 0 then x else firstOf l
theorem firstOf_at : ∀ {l : List Int} {i : Nat} (hi : i < l.length), l[i] ≠ 0 → (∀ j (hj : j < i), l[j] = 0) → firstOf l = l[i]
  | x :: l, 0, _, h, _ => by rw [firstOf, if_pos (by simpa using h)]; rfl
  | x :: l, i + 1, hi, h, hb => by
    rw [firstOf, if_neg (by simpa using hb 0 (by omega))]
    exact firstOf_at (l := l) (by simpa using hi) (by simpa using h) fun j hj => by simpa using hb (j + 1) (by omega)
theorem firstOf_none : ∀ {l : List Int}, (∀ j (hj : j < l.length), l[j] = 0) → firstOf l = 0
  | [], _ => rfl
  | x :: l, hb => by
    have h0 : x = 0 := hb 0 (by simp)
    rw [firstOf, if_neg (by simp [h0])]
    exact firstOf_none fun j hj => hb (j + 1) (by simpa using hj)

/-- The error of a ground and beds. -/
def griddedE (g : Ground) (l : List Grid) : Int :=
  if groundE g ≠ 0 then groundE g else if firstOf (l.map gridE) ≠ 0 then firstOf (l.map gridE) else match l with
    | a :: b :: _ => if alikeE a b = true then 0 else 10
    | _ => 0

theorem firstOf_map {l : List Grid} {i : Nat} (hi : i < l.length) (h : gridE l[i] ≠ 0) (hb : ∀ j (hj : j < i) (hj' : j < l.length), gridE l[j] = 0) : firstOf (l.map gridE) = gridE l[i] := by
  have := firstOf_at (l := l.map gridE) (i := i) (by simpa using hi) (by simpa using h) fun j hj => by simpa using hb j hj (by omega)
  simpa using this

end Go.Pv.Soil

open Go Go.Proofs Go.Pv
set_option maxHeartbeats 2000000
set_option maxRecDepth 100000
set_option linter.unusedSimpArgs false
set_option linter.unusedVariables false
namespace Go.Pv.Soil

def sameE (a b : Grid) : Bool := alikeE a b && decide (a.levels = b.levels)
/-- Two cells side by side. -/
def besideE (g : Grid) (i k : Nat) : Bool := decide (((i : Int) % g.cols - (k : Int) % g.cols).natAbs + ((i : Int) / g.cols - (k : Int) / g.cols).natAbs = 1)
end Go.Pv.Soil

open Go Go.Proofs Go.Pv
set_option maxHeartbeats 2000000
set_option maxRecDepth 100000
set_option linter.unusedSimpArgs false
set_option linter.unusedVariables false
namespace Go.Pv.Soil

theorem scalInt : ScalF encInt 1 := fun _ => ⟨rfl, rfl⟩
/-- The cells beside a cell, of the first n cells. -/
def nearL (g : Grid) (i : Nat) : Nat → List Int
  | 0 => []
  | n + 1 => if besideE g i n = true then nearL g i n ++ [(n : Int)] else nearL g i n
theorem nearL_len (g : Grid) (i : Nat) : ∀ n, (nearL g i n).length ≤ n
  | 0 => Nat.le_refl _
  | n + 1 => by
    have := nearL_len g i n
    simp only [nearL]
    split <;> simp <;> omega

end Go.Pv.Soil

open Go Go.Proofs Go.Pv
set_option maxHeartbeats 4000000
set_option maxRecDepth 100000
set_option linter.unusedVariables false
set_option linter.unusedSimpArgs false
namespace Go.Pv.Soil
def axA (c : Chan) (i : Nat) : Axp := c.axis.getD i ⟨0, 0, 1, 0, 0⟩
theorem axA_get {c : Chan} {i : Nat} (h : i < c.axis.length) : axA c i = c.axis[i] := by simp [axA, List.getD, h]
noncomputable def legsL (c : Chan) (p : Geo.Pt) : Nat → List XPart
  | 0 => []
  | n + 1 => if legB (axA c n) (axA c (n + 1)) p = true then legsL c p n ++ [legP (axA c n) (axA c (n + 1)) p] else legsL c p n
noncomputable def bendsL (c : Chan) (p : Geo.Pt) : Nat → List XPart
  | 0 => legsL c p (c.axis.length - 1)
  | n + 1 => if bendB (axA c n) (axA c (n + 1)) (axA c (n + 2)) p = true then bendsL c p n ++ [bendP (axA c n) (axA c (n + 1)) (axA c (n + 2)) p] else bendsL c p n
theorem legsL_len (c : Chan) (p : Geo.Pt) : ∀ n, (legsL c p n).length ≤ n
  | 0 => Nat.le_refl _
  | n + 1 => by
    have := legsL_len c p n
    simp only [legsL]
    split <;> simp <;> omega
theorem bendsL_len (c : Chan) (p : Geo.Pt) : ∀ n, (bendsL c p n).length ≤ c.axis.length + n
  | 0 => by have := legsL_len c p (c.axis.length - 1); simp only [bendsL]; omega
  | n + 1 => by
    have := bendsL_len c p n
    simp only [bendsL]
    split <;> simp <;> omega
theorem scalXP : ScalF encXP 4 := fun _ => ⟨rfl, rfl⟩
noncomputable def partsL (c : Chan) (p : Geo.Pt) : List XPart := bendsL c p (c.axis.length - 2)
theorem h_parts (c : Chan) (hc : OkChan c) (p : Geo.Pt) (hp : Geo.ptOK p = true) :
    Contract Tryz.prog 53 [.agg (encChan c), .agg (Geo.encPt p)] (.ret (.fr 4 ((partsL c p).map encXP))) := by
  have hl := hc.len
  refine contract_of mix Tryz.func53 rfl rfl (by rw [Tryz.ntmps53]; exact Nat.le_of_ble_eq_true rfl) ?_; rw [Tryz.results53, Tryz.ntmps53]; simp only [argsE, Nat.reduceAdd]
  repeat' first
           | (with_reducible apply go_op)
           | (with_reducible apply go_next)
           | ((with_reducible (show evOp _ _ _ _ _ _)); first
             | ((with_reducible (show evOp _ (.move _) _ _ _ _)) ; first | ((with_reducible apply go_mv_int); rfl; rfl) | ((with_reducible apply go_mv_nilsl); rfl; rfl))
             | ((with_reducible apply go_as))
             | (((with_reducible apply go_load_own); rfl; rfl; rfl; rfl))
             | (((with_reducible apply go_fieldAddr_own); rfl; rfl; rfl))
             | (((with_reducible apply go_sub); rfl; rfl; rfl; omega))
             | (((with_reducible apply go_len); rfl; rfl))
             | (((with_reducible apply go_bx_agg); rfl; rfl; (exact Nat.le_of_ble_eq_true rfl); rfl; rfl)))
           | ((with_reducible (show evOps _ _ _ _ _ _)); first
             | (with_reducible apply go_nil))
           | ((with_reducible (show evG _ _ _ _ _)); first
             | (with_reducible apply go_seq)
             | (with_reducible apply go_region)
             | (with_reducible apply go_block))
           | (with_reducible apply go_kseq)
  refine go_count (c.axis.length - 1) (fun i => ⟨[(5, .os 2 0 (legsL c p i).length), (16, .int .i64 i), (15, .int .i64 ((c.axis.length : Int) - 1)), (2, .op 0 0 0), (3, .op 1 0 0)], [(2, ⟨4, true, (legsL c p i).map encXP⟩), (0, ⟨5, true, [encChan c]⟩), (1, ⟨2, true, [Geo.encPt p]⟩)], 32, 53⟩) (fun j => True) (entails_eq (nx := 32) (k := 4) (ns := [(5, 2)]) (ks := [16, 15, 2, 3]) [(0, 0), (32, 1)] rfl (by simp; rfl) (by kernel_rfl)) trivial ?_
  intro i hi _
  have hlen := legsL_len c p i
  by_cases hlt : i < c.axis.length - 1
  · have y1 := h_onLeg c hc i (by omega) p hp
    rw [← axA_get (c := c) (i := i) (by omega), ← axA_get (c := c) (i := i + 1) (by omega)] at y1
    have e1 : legsL c p (i + 1) = if legB (axA c i) (axA c (i + 1)) p = true then legsL c p i ++ [legP (axA c i) (axA c (i + 1)) p] else legsL c p i := rfl
    cases hB : legB (axA c i) (axA c (i + 1)) p with
    | true =>
      rw [hB] at y1
      rw [if_pos hB] at e1
      have el : (legsL c p i).length + 1 = (legsL c p (i + 1)).length := by rw [e1]; simp
      repeat' first
           | (with_reducible apply go_op)
           | (with_reducible apply go_next)
           | ((with_reducible (show evOp _ _ _ _ _ _)); first
             | ((with_reducible (show evOp _ (.move _) _ _ _ _)) ; first | ((with_reducible apply go_mv_int); rfl; rfl) | ((with_reducible apply go_mv_bool); rfl; rfl) | ((with_reducible apply go_mv_os); rfl; rfl) | ((with_reducible apply go_mv_tup); rfl; rfl))
             | ((with_reducible apply go_as))
             | (((with_reducible apply go_ld_agg); rfl; rfl; rfl; rfl))
             | (((with_reducible apply go_cmp); rfl; rfl; rfl; rfl))
             | (((with_reducible apply go_fn_plain); rfl; (exact y1); rfl; (exact Nat.le_of_ble_eq_true rfl); rfl))
             | (((with_reducible apply go_st_agg); rfl; rfl; rfl; rfl; rfl; rfl; rfl))
             | (((with_reducible apply go_extract); rfl; rfl))
             | (((with_reducible apply go_alloc); rfl; rfl; rfl))
             | (((with_reducible apply go_bs1_agg); rfl; rfl; rfl; rfl; rfl; rfl)))
           | ((with_reducible (show evOps _ _ _ _ _ _)); first
             | (with_reducible apply go_nil))
           | ((with_reducible (show evG _ _ _ _ _)); first
             | (with_reducible apply go_seq)
             | (with_reducible apply go_region)
             | ((with_reducible apply go_cond_t); rfl; rfl)
             | (((with_reducible apply go_cond); rfl) <;> (intro h; simp only [h]; try simp only [decide_eq_true_eq, decide_eq_false_iff_not, Bool.not_eq_true', Bool.not_eq_false', Bool.not_true, Bool.not_false] at h; try exact absurd trivial h))
             | (with_reducible apply go_skipc)
             | (with_reducible apply go_block)
             | (with_reducible apply go_exit))
           | (with_reducible apply go_kseq)
           | (with_reducible apply go_kblock_exit)
           | (with_reducible apply go_kseq_exit)
      all_goals try (exfalso; omega)
      refine go_app_map (f := encXP) (a := legP (axA c i) (axA c (i + 1)) p) (l := legsL c p i) scalXP rfl rfl rfl rfl rfl rfl (by kernel_rfl) (by kernel_rfl) (by omega) rfl ?_
      repeat' first
           | (with_reducible apply go_op)
           | (with_reducible apply go_next)
           | ((with_reducible (show evOp _ _ _ _ _ _)); first
             | ((with_reducible (show evOp _ (.move _) _ _ _ _)) ; first | ((with_reducible apply go_mv_int); rfl; rfl) | ((with_reducible apply go_mv_os); rfl; rfl))
             | ((with_reducible apply go_as))
             | (((with_reducible apply go_add); rfl; rfl; rfl; omega)))
           | ((with_reducible (show evOps _ _ _ _ _ _)); first
             | (with_reducible apply go_nil))
           | ((with_reducible (show evG _ _ _ _ _)); first
             | (with_reducible apply go_region))
           | (with_reducible apply go_kseq)
           | (with_reducible apply go_kblock)
      refine ⟨hlt, trivial, ?_⟩
      rw [← e1, el]
      exact entails_eq (nx := 32) (k := 4) (ns := []) (ks := [5, 16, 15, 2, 3]) [(2, 2), (0, 0), (1, 1)] rfl (by simp) (by kernel_rfl)
    | false =>
      rw [hB] at y1
      rw [if_neg (by rw [hB]; exact Bool.false_ne_true)] at e1
      repeat' first
           | (with_reducible apply go_op)
           | (with_reducible apply go_next)
           | ((with_reducible (show evOp _ _ _ _ _ _)); first
             | ((with_reducible (show evOp _ (.move _) _ _ _ _)) ; first | ((with_reducible apply go_mv_int); rfl; rfl) | ((with_reducible apply go_mv_bool); rfl; rfl) | ((with_reducible apply go_mv_tup); rfl; rfl))
             | ((with_reducible apply go_as))
             | (((with_reducible apply go_ld_agg); rfl; rfl; rfl; rfl))
             | ((with_reducible (show evOp _ (.binOp _ _ _ _ _) _ _ _ _)) ; first | ((with_reducible apply go_cmp); rfl; rfl; rfl; rfl) | ((with_reducible apply go_add); rfl; rfl; rfl; omega))
             | (((with_reducible apply go_fn_plain); rfl; (exact y1); rfl; (exact Nat.le_of_ble_eq_true rfl); rfl))
             | (((with_reducible apply go_st_agg); rfl; rfl; rfl; rfl; rfl; rfl; rfl))
             | (((with_reducible apply go_extract); rfl; rfl))
             | (((with_reducible apply go_alloc); rfl; rfl; rfl)))
           | ((with_reducible (show evOps _ _ _ _ _ _)); first
             | (with_reducible apply go_nil))
           | ((with_reducible (show evG _ _ _ _ _)); first
             | (with_reducible apply go_seq)
             | (with_reducible apply go_region)
             | ((with_reducible apply go_cond_f); rfl; rfl)
             | (((with_reducible apply go_cond); rfl) <;> (intro h; simp only [h]; try simp only [decide_eq_true_eq, decide_eq_false_iff_not, Bool.not_eq_true', Bool.not_eq_false', Bool.not_true, Bool.not_false] at h; try exact absurd trivial h))
             | (with_reducible apply go_skipc)
             | (with_reducible apply go_block)
             | (with_reducible apply go_exit))
           | (with_reducible apply go_kseq)
           | (with_reducible apply go_kblock)
           | (with_reducible apply go_kblock_exit)
           | (with_reducible apply go_kseq_exit)
      all_goals try (exfalso; omega)
      refine ⟨hlt, trivial, ?_⟩
      rw [e1]
      exact entails_eq (nx := 32) (k := 4) (ns := []) (ks := [5, 16, 15, 2, 3]) [(2, 2), (0, 0), (1, 1)] rfl (by simp) (by kernel_rfl)
  · have e : i = c.axis.length - 1 := by omega
    subst e
    repeat' first
           | (with_reducible apply go_op)
           | (with_reducible apply go_next)
           | ((with_reducible (show evOp _ _ _ _ _ _)); first
             | (((with_reducible apply go_mv_int); rfl; rfl))
             | ((with_reducible apply go_as))
             | (((with_reducible apply go_ld_agg); rfl; rfl; rfl; rfl))
             | (((with_reducible apply go_cmp); rfl; rfl; rfl; rfl)))
           | ((with_reducible (show evOps _ _ _ _ _ _)); first
             | (with_reducible apply go_nil))
           | ((with_reducible (show evG _ _ _ _ _)); first
             | (with_reducible apply go_seq)
             | (with_reducible apply go_region)
             | (((with_reducible apply go_cond); rfl) <;> (intro h; simp only [h]; try simp only [decide_eq_true_eq, decide_eq_false_iff_not, Bool.not_eq_true', Bool.not_eq_false', Bool.not_true, Bool.not_false] at h; try exact absurd trivial h))
             | (with_reducible apply go_skipc)
             | (with_reducible apply go_block)
             | (with_reducible apply go_exit))
           | (with_reducible apply go_kseq)
           | (with_reducible apply go_kblock_exit)
           | (with_reducible apply go_kseq_exit)
    all_goals try (exfalso; omega)
    have hb0 := bendsL_len c p 0
    rw [show legsL c p (c.axis.length - 1) = bendsL c p 0 from rfl]
    refine go_count (c.axis.length - 2) (fun i => ⟨[(5, .os 2 0 (bendsL c p i).length), (9, .int .i64 ((i : Int) + 1)), (2, .op 0 0 0), (3, .op 1 0 0)], [(2, ⟨4, true, (bendsL c p i).map encXP⟩), (0, ⟨5, true, [encChan c]⟩), (1, ⟨2, true, [Geo.encPt p]⟩)], 32, 53⟩) (fun j => True) (entails_eq (nx := 32) (k := 4) (ns := []) (ks := [5, 9, 2, 3]) [(2, 2), (0, 0), (1, 1)] rfl (by simp) (by kernel_rfl)) trivial ?_
    intro i hi _
    have hlen := bendsL_len c p i
    by_cases hlt : i < c.axis.length - 2
    · have y1 := h_onBend c hc i (by omega) p hp
      rw [← axA_get (c := c) (i := i) (by omega), ← axA_get (c := c) (i := i + 1) (by omega), ← axA_get (c := c) (i := i + 2) (by omega)] at y1
      have e1 : bendsL c p (i + 1) = if bendB (axA c i) (axA c (i + 1)) (axA c (i + 2)) p = true then bendsL c p i ++ [bendP (axA c i) (axA c (i + 1)) (axA c (i + 2)) p] else bendsL c p i := rfl
      cases hB : bendB (axA c i) (axA c (i + 1)) (axA c (i + 2)) p with
      | true =>
        rw [hB] at y1
        rw [if_pos hB] at e1
        have el : (bendsL c p i).length + 1 = (bendsL c p (i + 1)).length := by rw [e1]; simp
        repeat' first
           | (with_reducible apply go_op)
           | (with_reducible apply go_next)
           | ((with_reducible (show evOp _ _ _ _ _ _)); first
             | ((with_reducible (show evOp _ (.move _) _ _ _ _)) ; first | ((with_reducible apply go_mv_int); rfl; rfl) | ((with_reducible apply go_mv_bool); rfl; rfl) | ((with_reducible apply go_mv_os); rfl; rfl) | ((with_reducible apply go_mv_tup); rfl; rfl))
             | ((with_reducible apply go_as))
             | ((with_reducible (show evOp _ (.load _ _) _ _ _ _)) ; first | ((with_reducible apply go_ld_agg); rfl; rfl; rfl; rfl) | ((with_reducible apply go_load_own); rfl; rfl; rfl; rfl))
             | (((with_reducible apply go_fieldAddr_own); rfl; rfl; rfl))
             | ((with_reducible (show evOp _ (.binOp _ _ _ _ _) _ _ _ _)) ; first | ((with_reducible apply go_cmp); rfl; rfl; rfl; rfl) | ((with_reducible apply go_sub); rfl; rfl; rfl; omega))
             | ((with_reducible (show evOp _ (.call _) _ _ _ _)) ; first | ((with_reducible apply go_len); rfl; rfl) | ((with_reducible apply go_fn_plain); rfl; (exact y1); rfl; (exact Nat.le_of_ble_eq_true rfl); rfl))
             | (((with_reducible apply go_st_agg); rfl; rfl; rfl; rfl; rfl; rfl; rfl))
             | (((with_reducible apply go_extract); rfl; rfl))
             | (((with_reducible apply go_alloc); rfl; rfl; rfl))
             | (((with_reducible apply go_bs1_agg); rfl; rfl; rfl; rfl; rfl; rfl)))
           | ((with_reducible (show evOps _ _ _ _ _ _)); first
             | (with_reducible apply go_nil))
           | ((with_reducible (show evG _ _ _ _ _)); first
             | (with_reducible apply go_seq)
             | (with_reducible apply go_region)
             | ((with_reducible apply go_cond_t); rfl; rfl)
             | (((with_reducible apply go_cond); rfl) <;> (intro h; simp only [h]; try simp only [decide_eq_true_eq, decide_eq_false_iff_not, Bool.not_eq_true', Bool.not_eq_false', Bool.not_true, Bool.not_false] at h; try exact absurd trivial h))
             | (with_reducible apply go_ret)
             | (with_reducible apply go_skipc)
             | (with_reducible apply go_block)
             | (with_reducible apply go_exit))
           | (with_reducible apply go_kseq)
           | (with_reducible apply go_kblock_exit)
           | (with_reducible apply go_kseq_exit)
        all_goals try (exfalso; omega)
        refine go_app_map (f := encXP) (a := bendP (axA c i) (axA c (i + 1)) (axA c (i + 2)) p) (l := bendsL c p i) scalXP rfl rfl rfl rfl rfl rfl (by kernel_rfl) (by kernel_rfl) (by omega) rfl ?_
        repeat' first
           | (with_reducible apply go_op)
           | (with_reducible apply go_next)
           | ((with_reducible (show evOp _ _ _ _ _ _)); first
             | ((with_reducible (show evOp _ (.move _) _ _ _ _)) ; first | ((with_reducible apply go_mv_int); rfl; rfl) | ((with_reducible apply go_mv_os); rfl; rfl))
             | ((with_reducible apply go_as))
             | (((with_reducible apply go_add); rfl; rfl; rfl; omega)))
           | ((with_reducible (show evOps _ _ _ _ _ _)); first
             | (with_reducible apply go_nil))
           | ((with_reducible (show evG _ _ _ _ _)); first
             | (with_reducible apply go_region))
           | (with_reducible apply go_kseq)
           | (with_reducible apply go_kblock)
        refine ⟨hlt, trivial, ?_⟩
        rw [← e1, el]
        exact entails_eq (nx := 32) (k := 4) (ns := []) (ks := [5, 9, 2, 3]) [(2, 2), (0, 0), (1, 1)] rfl (by simp) (by kernel_rfl)
      | false =>
        rw [hB] at y1
        rw [if_neg (by rw [hB]; exact Bool.false_ne_true)] at e1
        repeat' first
           | (with_reducible apply go_op)
           | (with_reducible apply go_next)
           | ((with_reducible (show evOp _ _ _ _ _ _)); first
             | ((with_reducible (show evOp _ (.move _) _ _ _ _)) ; first | ((with_reducible apply go_mv_int); rfl; rfl) | ((with_reducible apply go_mv_bool); rfl; rfl) | ((with_reducible apply go_mv_os); rfl; rfl) | ((with_reducible apply go_mv_tup); rfl; rfl))
             | ((with_reducible apply go_as))
             | ((with_reducible (show evOp _ (.load _ _) _ _ _ _)) ; first | ((with_reducible apply go_ld_agg); rfl; rfl; rfl; rfl) | ((with_reducible apply go_load_own); rfl; rfl; rfl; rfl))
             | (((with_reducible apply go_fieldAddr_own); rfl; rfl; rfl))
             | ((with_reducible (show evOp _ (.binOp _ _ _ _ _) _ _ _ _)) ; first | ((with_reducible apply go_cmp); rfl; rfl; rfl; rfl) | ((with_reducible apply go_add); rfl; rfl; rfl; omega) | ((with_reducible apply go_sub); rfl; rfl; rfl; omega))
             | ((with_reducible (show evOp _ (.call _) _ _ _ _)) ; first | ((with_reducible apply go_len); rfl; rfl) | ((with_reducible apply go_fn_plain); rfl; (exact y1); rfl; (exact Nat.le_of_ble_eq_true rfl); rfl))
             | (((with_reducible apply go_st_agg); rfl; rfl; rfl; rfl; rfl; rfl; rfl))
             | (((with_reducible apply go_extract); rfl; rfl))
             | (((with_reducible apply go_alloc); rfl; rfl; rfl)))
           | ((with_reducible (show evOps _ _ _ _ _ _)); first
             | (with_reducible apply go_nil))
           | ((with_reducible (show evG _ _ _ _ _)); first
             | (with_reducible apply go_seq)
             | (with_reducible apply go_region)
             | ((with_reducible apply go_cond_f); rfl; rfl)
             | (((with_reducible apply go_cond); rfl) <;> (intro h; simp only [h]; try simp only [decide_eq_true_eq, decide_eq_false_iff_not, Bool.not_eq_true', Bool.not_eq_false', Bool.not_true, Bool.not_false] at h; try exact absurd trivial h))
             | (with_reducible apply go_ret)
             | (with_reducible apply go_skipc)
             | (with_reducible apply go_block)
             | (with_reducible apply go_exit))
           | (with_reducible apply go_kseq)
           | (with_reducible apply go_kblock)
           | (with_reducible apply go_kblock_exit)
           | (with_reducible apply go_kseq_exit)
        all_goals try (exfalso; omega)
        refine ⟨hlt, trivial, ?_⟩
        rw [e1]
        exact entails_eq (nx := 32) (k := 4) (ns := []) (ks := [5, 9, 2, 3]) [(2, 2), (0, 0), (1, 1)] rfl (by simp) (by kernel_rfl)
    · have e : i = c.axis.length - 2 := by omega
      subst e
      repeat' first
           | (with_reducible apply go_op)
           | (with_reducible apply go_next)
           | ((with_reducible (show evOp _ _ _ _ _ _)); first
             | ((with_reducible (show evOp _ (.move _) _ _ _ _)) ; first | ((with_reducible apply go_mv_int); rfl; rfl) | ((with_reducible apply go_mv_os); rfl; rfl))
             | ((with_reducible apply go_as))
             | ((with_reducible (show evOp _ (.load _ _) _ _ _ _)) ; first | ((with_reducible apply go_ld_agg); rfl; rfl; rfl; rfl) | ((with_reducible apply go_load_own); rfl; rfl; rfl; rfl))
             | (((with_reducible apply go_fieldAddr_own); rfl; rfl; rfl))
             | ((with_reducible (show evOp _ (.binOp _ _ _ _ _) _ _ _ _)) ; first | ((with_reducible apply go_cmp); rfl; rfl; rfl; rfl) | ((with_reducible apply go_sub); rfl; rfl; rfl; omega))
             | (((with_reducible apply go_len); rfl; rfl)))
           | ((with_reducible (show evOps _ _ _ _ _ _)); first
             | (with_reducible apply go_nil))
           | ((with_reducible (show evG _ _ _ _ _)); first
             | (with_reducible apply go_seq)
             | (with_reducible apply go_region)
             | (((with_reducible apply go_cond); rfl) <;> (intro h; simp only [h]; try simp only [decide_eq_true_eq, decide_eq_false_iff_not, Bool.not_eq_true', Bool.not_eq_false', Bool.not_true, Bool.not_false] at h; try exact absurd trivial h))
             | (with_reducible apply go_ret)
             | (with_reducible apply go_skipc)
             | (with_reducible apply go_block)
             | (with_reducible apply go_exit))
           | (with_reducible apply go_kseq)
           | (with_reducible apply go_kblock_exit)
           | (with_reducible apply go_kseq_exit)
      all_goals first
        | (exfalso; omega)
        | exact end_fr rfl rfl rfl
        | trace_state
end Go.Pv.Soil

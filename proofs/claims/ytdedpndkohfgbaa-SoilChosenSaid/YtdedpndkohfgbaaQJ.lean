import Derived.Test.YtdedpndkohfgbaaProg
import Derived.Test.YtdedpndkohfgbaaQI
import Derived.KernelRfl
/- Part of the proofs over Ytdedpndkohfgbaa: S23. -/
set_option linter.unusedVariables false
set_option linter.unusedSimpArgs false
set_option linter.unnecessarySimpa false
open Go Go.Proofs Go.Pv
set_option maxHeartbeats 2000000
set_option maxRecDepth 100000
set_option linter.unusedSimpArgs false
set_option linter.unusedVariables false
namespace Go.Pv.Soil

theorem c165v (l : List Int) (hl : l.length < 1000000000000) (g : FuncId) (ys : List D) (hst : Stab ys) (hpu : pureL ys = true) (p : Int → Bool) (hf : ∀ x ∈ l, Contract Try.prog g (.int .i64 x :: ys) (.ret (.bool (p x)))) :
    Contract Try.prog 165 [.sl (l.map encInt), .clo (.func g) [] ys] (.ret (.int .i64 (idxOf p l))) := by
  refine contract_of mix Try.func165 rfl rfl (by rw [Try.ntmps165]; exact Nat.le_of_ble_eq_true rfl) ?_; rw [Try.results165, Try.ntmps165]; simp only [argsE, Nat.reduceAdd]
  repeat' first
           | (with_reducible apply go_op)
           | (with_reducible apply go_next)
           | ((with_reducible (show evOp _ _ _ _ _ _)); first
             | ((with_reducible (show evOp _ (.move _) _ _ _ _)) ; first | ((with_reducible apply go_mv_int); rfl; rfl) | ((with_reducible apply go_mv_sl); rfl; rfl))
             | ((with_reducible apply go_as))
             | (((with_reducible apply go_len); rfl; rfl)))
           | ((with_reducible (show evOps _ _ _ _ _ _)); first
             | (with_reducible apply go_nil))
           | ((with_reducible (show evG _ _ _ _ _)); first
             | (with_reducible apply go_seq)
             | (with_reducible apply go_region)
             | (with_reducible apply go_block))
           | (with_reducible apply go_kseq)
  have e8 : ∀ i : Nat, (⟨[(8, .int .i64 i), (7, .int .i64 l.length), (0, .sl (l.map encInt)), (1, .clo (.func g) [] (renL [] ys))], [], 0, 19⟩ : St) = ⟨[(8, .int .i64 i), (7, .int .i64 l.length), (0, .sl (l.map encInt)), (1, .clo (.func g) [] ys)], [], 0, 19⟩ := fun i => by rw [renL_pure hpu]
  refine go_count l.length (fun i => ⟨[(8, .int .i64 i), (7, .int .i64 l.length), (0, .sl (l.map encInt)), (1, .clo (.func g) [] ys)], [], 0, 19⟩) (fun i => ∀ j (hj : j < i) (hj' : j < l.length), p l[j] = false) (entails_eq (k := 0) (ns := []) (ks := [8, 7, 0, 1]) [] rfl (by simp) (e8 _)) (by omega) ?_
  intro i hi hC
  repeat' first
           | (with_reducible apply go_op)
           | (with_reducible apply go_next)
           | ((with_reducible (show evOp _ _ _ _ _ _)); first
             | ((with_reducible (show evOp _ (.move _) _ _ _ _)) ; first | ((with_reducible apply go_mv_int); rfl; rfl) | ((with_reducible apply go_mv_sl); rfl; rfl) | ((with_reducible apply go_mv_clo); rfl; rfl))
             | ((with_reducible apply go_as))
             | (((with_reducible apply go_load); rfl; rfl; rfl))
             | (((with_reducible apply go_index_nat); rfl; rfl; (with_reducible rfl); (intro; rfl); rfl; omega; (intro hlt)))
             | (((with_reducible apply go_cmp); rfl; rfl; rfl; rfl)))
           | ((with_reducible (show evOps _ _ _ _ _ _)); first
             | (with_reducible apply go_nil))
           | ((with_reducible (show evG _ _ _ _ _)); first
             | (with_reducible apply go_seq)
             | (with_reducible apply go_region)
             | (((with_reducible apply go_cond); rfl) <;> (intro h; simp only [h]; try simp only [decide_eq_true_eq, decide_eq_false_iff_not, Bool.not_eq_true', Bool.not_eq_false', Bool.not_true, Bool.not_false] at h; try exact absurd trivial h))
             | (with_reducible apply go_ret)
             | (with_reducible apply go_skipc)
             | (with_reducible apply go_block)
             | (with_reducible apply go_exit))
           | (with_reducible apply go_kseq)
           | (with_reducible apply go_kblock_exit)
           | (with_reducible apply go_kseq_exit)
           | ((with_reducible apply end_int); rfl)
  · refine go_clo_bool rfl rfl hst (hf l[i] (List.getElem_mem _)) rfl ?_
    repeat' first
           | (with_reducible apply go_op)
           | (with_reducible apply go_next)
           | ((with_reducible (show evOp _ _ _ _ _ _)); first
             | (((with_reducible apply go_mv_int); rfl; rfl))
             | ((with_reducible apply go_as))
             | (((with_reducible apply go_add); rfl; rfl; rfl; omega)))
           | ((with_reducible (show evOps _ _ _ _ _ _)); first
             | (with_reducible apply go_nil))
           | ((with_reducible (show evG _ _ _ _ _)); first
             | (with_reducible apply go_seq)
             | (with_reducible apply go_region)
             | (((with_reducible apply go_cond); rfl) <;> (intro h; simp only [h]; try simp only [decide_eq_true_eq, decide_eq_false_iff_not, Bool.not_eq_true', Bool.not_eq_false', Bool.not_true, Bool.not_false] at h; try exact absurd trivial h))
             | (with_reducible apply go_ret)
             | (with_reducible apply go_skipc))
           | (with_reducible apply go_kseq)
           | (with_reducible apply go_kseq_ret)
           | (with_reducible apply go_kblock)
           | (with_reducible apply go_kblock_ret)
           | ((with_reducible apply end_int); rfl)
    · have h2 : i < l.length := by omega
      exact (idxOf_some h2 h fun j hj => hC j hj (by omega)).symm
    · have h2 : i < l.length := by omega
      refine ⟨by omega, fun j hj hj' => ?_, entails_eq (k := 0) (ns := []) (ks := [8, 7, 0, 1]) [] rfl (by simp) (e8 _)⟩
      rcases Nat.lt_succ_iff_lt_or_eq.1 hj with h' | rfl
      · exact hC j h' hj'
      · exact h
  · refine (idxOf_none fun x hx => ?_).symm
    obtain ⟨j, hj, rfl⟩ := List.mem_iff_getElem.1 hx
    exact hC j (by omega) hj


theorem c124v (l : List Int) (hl : l.length < 1000000000000) (g : FuncId) (ys : List D) (hst : Stab ys) (hpu : pureL ys = true) (p : Int → Bool) (hf : ∀ x ∈ l, Contract Try.prog g (.int .i64 x :: ys) (.ret (.bool (p x)))) :
    Contract Try.prog 124 [.sl (l.map encInt), .clo (.func g) [] ys] (.ret (.bool (l.any p))) := by
  refine contract_of mix Try.func124 rfl rfl (by rw [Try.ntmps124]; exact Nat.le_of_ble_eq_true rfl) ?_; rw [Try.results124, Try.ntmps124]; simp only [argsE, Nat.reduceAdd]
  repeat' first
           | (with_reducible apply go_op)
           | (with_reducible apply go_next)
           | ((with_reducible (show evOp _ _ _ _ _ _)); first
             | ((with_reducible (show evOp _ (.move _) _ _ _ _)) ; first | ((with_reducible apply go_mv_bool); rfl; rfl) | ((with_reducible apply go_mv_sl); rfl; rfl) | ((with_reducible apply go_mv_clo); rfl; rfl))
             | ((with_reducible apply go_as)))
           | ((with_reducible (show evOps _ _ _ _ _ _)); first
             | (with_reducible apply go_nil))
           | ((with_reducible (show evG _ _ _ _ _)); first
             | (with_reducible apply go_seq)
             | (with_reducible apply go_region))
           | (with_reducible apply go_kseq)
  refine go_fn_int (args' := [.sl (l.map encInt), .clo (.func g) [] ys]) ?_ (c165v l hl g ys hst hpu p hf) rfl ?_
  · have e := hst (lkH []) 45
    simp only [List.map_cons, List.map_nil, evalD, lkE, purL, pur, Option.bind_some, Option.map_some, Nat.reduceEqDiff, if_true, if_false, e]
  repeat' first
           | (with_reducible apply go_op)
           | (with_reducible apply go_next)
           | ((with_reducible (show evOp _ _ _ _ _ _)); first
             | (((with_reducible apply go_mv_bool); rfl; rfl))
             | ((with_reducible apply go_as))
             | (((with_reducible apply go_cmp); rfl; rfl; rfl; rfl)))
           | ((with_reducible (show evOps _ _ _ _ _ _)); first
             | (with_reducible apply go_nil))
           | ((with_reducible (show evG _ _ _ _ _)); first
             | (with_reducible apply go_ret))
           | (with_reducible apply go_kseq)
           | ((with_reducible apply end_bool); rfl)
  exact idxOf_ge

theorem c198 (n lo hi : Int) : Contract Try.prog 198 [.int .i64 n, .ptr [.int .i64 lo], .ptr [.int .i64 hi]] (.ret (.bool (decide (n < lo ∨ hi < n)))) := by
  refine contract_of mix Try.func198 rfl rfl (by rw [Try.ntmps198]; exact Nat.le_of_ble_eq_true rfl) ?_; rw [Try.results198, Try.ntmps198]; simp only [argsE, Nat.reduceAdd]
  repeat' first
           | (with_reducible apply go_op)
           | (with_reducible apply go_next)
           | ((with_reducible (show evOp _ _ _ _ _ _)); first
             | ((with_reducible (show evOp _ (.move _) _ _ _ _)) ; first | ((with_reducible apply go_mv_int); rfl; rfl) | ((with_reducible apply go_mv_bool); rfl; rfl))
             | ((with_reducible apply go_as))
             | (((with_reducible apply go_load); rfl; rfl; rfl))
             | (((with_reducible apply go_cmp); rfl; rfl; rfl; rfl))
             | (((with_reducible apply go_pick); rfl; rfl; rfl)))
           | ((with_reducible (show evOps _ _ _ _ _ _)); first
             | (with_reducible apply go_nil)
             | ((with_reducible apply go_run); rfl; rfl)
             | ((with_reducible apply go_pass); rfl; rfl; rfl)
             | (((with_reducible apply go_guard); rfl) <;> (intro h; simp only [h, Bool.not_true, Bool.not_false]; (try with_reducible (refine ⟨rfl, ?_⟩)); try simp only [decide_eq_true_eq, decide_eq_false_iff_not, Bool.not_eq_true', Bool.not_eq_false', Bool.not_true, Bool.not_false] at h; try exact absurd trivial h)))
           | ((with_reducible (show evG _ _ _ _ _)); first
             | (with_reducible apply go_seq)
             | (with_reducible apply go_region)
             | (with_reducible apply go_ret))
           | (with_reducible apply go_kseq)
           | ((with_reducible apply end_bool); rfl)
  · exact decide_eq_decide.2 (by omega)
  · exact (decide_eq_true (.inl h)).symm

def betw (lo hi : Int) (l : List Int) : Bool := !l.any fun n => decide (n < lo ∨ hi < n)
theorem c174 (lo hi : Int) (l : List Int) (hl : l.length < 1000000000000) : Contract Try.prog 174 [.int .i64 lo, .int .i64 hi, .sl (l.map encInt)] (.ret (.bool (betw lo hi l))) := by
  refine contract_of mix Try.func174 rfl rfl (by rw [Try.ntmps174]; exact Nat.le_of_ble_eq_true rfl) ?_; rw [Try.results174, Try.ntmps174]; simp only [argsE, Nat.reduceAdd]
  repeat' first
           | (with_reducible apply go_op)
           | (with_reducible apply go_next)
           | ((with_reducible (show evOp _ _ _ _ _ _)); first
             | ((with_reducible (show evOp _ (.move _) _ _ _ _)) ; first | ((with_reducible apply go_mv_bool); rfl; rfl) | ((with_reducible apply go_mv_sl); rfl; rfl))
             | ((with_reducible apply go_as))
             | (((with_reducible apply go_bx_int); rfl; rfl))
             | (((with_reducible apply go_fn2); rfl; rfl; rfl)))
           | ((with_reducible (show evOps _ _ _ _ _ _)); first
             | (with_reducible apply go_nil))
           | ((with_reducible (show evG _ _ _ _ _)); first
             | (with_reducible apply go_seq)
             | (with_reducible apply go_region))
           | (with_reducible apply go_kseq)
  refine go_fn_bool (args' := [.sl (l.map encInt), .clo (.func 198) [] [.ptr [.int .i64 lo], .ptr [.int .i64 hi]]]) rfl (c124v l hl 198 _ (fun _ _ => rfl) rfl (fun n => decide (n < lo ∨ hi < n)) fun x _ => c198 x lo hi) rfl ?_
  repeat' first
           | (with_reducible apply go_op)
           | (with_reducible apply go_next)
           | ((with_reducible (show evOp _ _ _ _ _ _)); first
             | (((with_reducible apply go_mv_bool); rfl; rfl))
             | ((with_reducible apply go_as))
             | (((with_reducible apply go_not); rfl; rfl)))
           | ((with_reducible (show evOps _ _ _ _ _ _)); first
             | (with_reducible apply go_nil))
           | ((with_reducible (show evG _ _ _ _ _)); first
             | (with_reducible apply go_ret))
           | (with_reducible apply go_kseq)
           | ((with_reducible apply end_bool); rfl)
  rfl

theorem betw1 (lo hi n : Int) : betw lo hi [n] = decide (lo ≤ n ∧ n ≤ hi) := by
  simp only [betw, List.any_cons, List.any_nil, Bool.or_false, ← decide_not]
  exact decide_eq_decide.2 (by omega)
theorem betw2 (lo hi n m : Int) : betw lo hi [n, m] = decide ((lo ≤ n ∧ n ≤ hi) ∧ (lo ≤ m ∧ m ≤ hi)) := by
  simp only [betw, List.any_cons, List.any_nil, Bool.or_false, Bool.not_or, ← decide_not, ← Bool.decide_and]
  exact decide_eq_decide.2 (by omega)
theorem c174' (lo hi n : Int) : Contract Try.prog 174 [.int .i64 lo, .int .i64 hi, .sl [[.int .i64 n]]] (.ret (.bool (decide (lo ≤ n ∧ n ≤ hi)))) := betw1 lo hi n ▸ c174 lo hi [n] (by simp)
theorem c174'' (lo hi n m : Int) : Contract Try.prog 174 [.int .i64 lo, .int .i64 hi, .sl [[.int .i64 n], [.int .i64 m]]] (.ret (.bool (decide ((lo ≤ n ∧ n ≤ hi) ∧ (lo ≤ m ∧ m ≤ hi))))) := betw2 lo hi n m ▸ c174 lo hi [n, m] (by simp)

theorem c180 (n : Int) : Contract Try.prog 180 [.int .i64 n] (.ret (.bool (lvOK n))) := by
  refine contract_of mix Try.func180 rfl rfl (by rw [Try.ntmps180]; exact Nat.le_of_ble_eq_true rfl) ?_; rw [Try.results180, Try.ntmps180]; simp only [argsE, Nat.reduceAdd]
  repeat' first
           | (with_reducible apply go_op)
           | (with_reducible apply go_next)
           | ((with_reducible (show evOp _ _ _ _ _ _)); first
             | ((with_reducible (show evOp _ (.move _) _ _ _ _)) ; first | ((with_reducible apply go_mv_int); rfl; rfl) | ((with_reducible apply go_mv_bool); rfl; rfl))
             | ((with_reducible apply go_as))
             | (((with_reducible apply go_fn_bool); rfl; (exact c174' _ _ _); rfl))
             | (((with_reducible apply go_bs1_int); rfl; rfl; rfl)))
           | ((with_reducible (show evOps _ _ _ _ _ _)); first
             | (with_reducible apply go_nil))
           | ((with_reducible (show evG _ _ _ _ _)); first
             | (with_reducible apply go_seq)
             | (with_reducible apply go_region)
             | (with_reducible apply go_ret))
           | (with_reducible apply go_kseq)
           | ((with_reducible apply end_bool); rfl)
  rfl

/-- A level that is neither one nor empty. -/
def badLv (n : Int) : Bool := decide (n ≠ 30000) && !lvOK n
theorem c179 (n : Int) : Contract Try.prog 179 [.int .i64 n] (.ret (.bool (badLv n))) := by
  refine contract_of mix Try.func179 rfl rfl (by rw [Try.ntmps179]; exact Nat.le_of_ble_eq_true rfl) ?_; rw [Try.results179, Try.ntmps179]; simp only [argsE, Nat.reduceAdd]
  repeat' first
           | (with_reducible apply go_op)
           | (with_reducible apply go_next)
           | ((with_reducible (show evOp _ _ _ _ _ _)); first
             | ((with_reducible (show evOp _ (.move _) _ _ _ _)) ; first | ((with_reducible apply go_mv_int); rfl; rfl) | ((with_reducible apply go_mv_bool); rfl; rfl))
             | ((with_reducible apply go_as))
             | (((with_reducible apply go_cmp); rfl; rfl; rfl; rfl))
             | (((with_reducible apply go_fn_bool); rfl; (exact c180 _); rfl))
             | (((with_reducible apply go_not); rfl; rfl))
             | (((with_reducible apply go_pick); rfl; rfl; rfl)))
           | ((with_reducible (show evOps _ _ _ _ _ _)); first
             | (with_reducible apply go_nil)
             | ((with_reducible apply go_run); rfl; rfl)
             | ((with_reducible apply go_pass); rfl; rfl; rfl)
             | (((with_reducible apply go_guard); rfl) <;> (intro h; simp only [h, Bool.not_true, Bool.not_false]; (try with_reducible (refine ⟨rfl, ?_⟩)); try simp only [decide_eq_true_eq, decide_eq_false_iff_not, Bool.not_eq_true', Bool.not_eq_false', Bool.not_true, Bool.not_false] at h; try exact absurd trivial h)))
           | ((with_reducible (show evG _ _ _ _ _)); first
             | (with_reducible apply go_seq)
             | (with_reducible apply go_region)
             | (with_reducible apply go_ret))
           | (with_reducible apply go_kseq)
           | ((with_reducible apply end_bool); rfl)
  · simp [badLv, h]
  · simp [badLv, h]

structure Grid where
  x : Int
  y : Int
  side : Int
  cols : Int
  rows : Int
  levels : List Int
def encGrid (g : Grid) : List D := [.int .i64 g.x, .int .i64 g.y, .int .i64 g.side, .int .i64 g.cols, .int .i64 g.rows, .sl (g.levels.map encInt)]
def gridE (g : Grid) : Int :=
  if ¬ (((-1000000 ≤ g.x ∧ g.x ≤ 1000000) ∧ -1000000 ≤ g.y ∧ g.y ≤ 1000000) ∧ (100 ≤ g.side ∧ g.side ≤ 10000) ∧ (1 ≤ g.cols ∧ g.cols ≤ 1024) ∧ 1 ≤ g.rows ∧ g.rows ≤ 1024) then 2
  else if 1024 < g.cols * g.rows then 8
  else if 1000000 < g.x + g.cols * g.side ∨ 1000000 < g.y + g.rows * g.side then 2
  else if (g.levels.length : Int) ≠ g.cols * g.rows then 10
  else if g.levels.any badLv then 2 else 0

theorem mul_bd {a b m n : Int} (ha : 1 ≤ a ∧ a ≤ m) (hb : 1 ≤ b ∧ b ≤ n) : 1 ≤ a * b ∧ a * b ≤ m * n := by
  constructor
  · exact Int.le_trans (by decide : (1 : Int) ≤ 1 * 1) (Int.mul_le_mul ha.1 hb.1 (by omega) (by omega))
  · exact Int.mul_le_mul ha.2 hb.2 (by omega) (by omega)

theorem c144 (g : Grid) (hl : g.levels.length < 1000000000000) : Contract Try.prog 144 [.agg (encGrid g)] (.ret (.int .i64 (gridE g))) := by
  by_cases hg : ((-1000000 ≤ g.x ∧ g.x ≤ 1000000) ∧ -1000000 ≤ g.y ∧ g.y ≤ 1000000) ∧ (100 ≤ g.side ∧ g.side ≤ 10000) ∧ (1 ≤ g.cols ∧ g.cols ≤ 1024) ∧ 1 ≤ g.rows ∧ g.rows ≤ 1024
  · have b1 := mul_bd hg.2.2.1 hg.2.2.2
    have b2 := mul_bd hg.2.2.1 (b := g.side) (n := 10000) (by omega)
    have b3 := mul_bd hg.2.2.2 (b := g.side) (n := 10000) (by omega)
    refine contract_of mix Try.func144 rfl rfl (by rw [Try.ntmps144]; exact Nat.le_of_ble_eq_true rfl) ?_; rw [Try.results144, Try.ntmps144]; simp only [argsE, Nat.reduceAdd]
    repeat' first
           | (with_reducible apply go_op)
           | (with_reducible apply go_next)
           | ((with_reducible (show evOp _ _ _ _ _ _)); first
             | ((with_reducible (show evOp _ (.move _) _ _ _ _)) ; first | ((with_reducible apply go_mv_int); rfl; rfl) | ((with_reducible apply go_mv_bool); rfl; rfl))
             | ((with_reducible apply go_as))
             | (((with_reducible apply go_load_own); rfl; rfl; rfl; rfl))
             | (((with_reducible apply go_fieldAddr_own); rfl; rfl; rfl))
             | ((with_reducible (show evOp _ (.binOp _ _ _ _ _) _ _ _ _)) ; first | ((with_reducible apply go_cmp); rfl; rfl; rfl; rfl) | ((with_reducible apply go_add); rfl; rfl; rfl; omega) | ((with_reducible apply go_mul); rfl; rfl; rfl; omega))
             | ((with_reducible (show evOp _ (.call _) _ _ _ _)) ; first | ((with_reducible apply go_len); rfl; rfl) | ((with_reducible apply go_fn_bool); rfl; (exact c174' _ _ _); rfl) | ((with_reducible apply go_fn_bool); rfl; (exact c174'' _ _ _ _); rfl) | ((with_reducible apply go_fn_bool); rfl; (exact c124 g.levels hl 179 badLv fun x _ => c179 x); rfl))
             | (((with_reducible apply go_not); rfl; rfl))
             | (((with_reducible apply go_pick); rfl; rfl; rfl))
             | (((with_reducible apply go_bx_agg); rfl; rfl; (exact Nat.le_of_ble_eq_true rfl); rfl; rfl))
             | ((with_reducible (show evOp _ (.buildSlice _ _ _) _ _ _ _)) ; first | ((with_reducible apply go_bs1_int); rfl; rfl; rfl) | ((with_reducible apply go_bs2_int); rfl; rfl; rfl; rfl)))
           | ((with_reducible (show evOps _ _ _ _ _ _)); first
             | (with_reducible apply go_nil)
             | ((with_reducible apply go_run); rfl; rfl)
             | ((with_reducible apply go_pass); rfl; rfl; rfl)
             | (((with_reducible apply go_guard); rfl) <;> (intro h; simp only [h, Bool.not_true, Bool.not_false]; (try with_reducible (refine ⟨rfl, ?_⟩)); try simp only [decide_eq_true_eq, decide_eq_false_iff_not, Bool.not_eq_true', Bool.not_eq_false', Bool.not_true, Bool.not_false] at h; try exact absurd trivial h)))
           | ((with_reducible (show evG _ _ _ _ _)); first
             | (with_reducible apply go_seq)
             | (with_reducible apply go_region)
             | ((with_reducible apply go_cond_t); rfl; rfl)
             | (((with_reducible apply go_cond); rfl) <;> (intro h; simp only [h]; try simp only [decide_eq_true_eq, decide_eq_false_iff_not, Bool.not_eq_true', Bool.not_eq_false', Bool.not_true, Bool.not_false] at h; try exact absurd trivial h))
             | (with_reducible apply go_ret)
             | (with_reducible apply go_skipc)
             | (with_reducible apply go_block))
           | (with_reducible apply go_kseq)
           | (with_reducible apply go_kseq_ret)
           | (with_reducible apply go_kblock)
           | (with_reducible apply go_kblock_ret)
           | ((with_reducible apply end_int); rfl)
    all_goals (unfold gridE; (repeat' split) <;> first | rfl | (exfalso; omega) | (exfalso; simp_all; done))
  · have e : gridE g = 2 := by unfold gridE; rw [if_pos hg]
    rw [e]
    refine contract_of mix Try.func144 rfl rfl (by rw [Try.ntmps144]; exact Nat.le_of_ble_eq_true rfl) ?_; rw [Try.results144, Try.ntmps144]; simp only [argsE, Nat.reduceAdd]
    repeat' first
           | (with_reducible apply go_op)
           | (with_reducible apply go_next)
           | ((with_reducible (show evOp _ _ _ _ _ _)); first
             | ((with_reducible (show evOp _ (.move _) _ _ _ _)) ; first | ((with_reducible apply go_mv_int); rfl; rfl) | ((with_reducible apply go_mv_bool); rfl; rfl))
             | ((with_reducible apply go_as))
             | (((with_reducible apply go_load_own); rfl; rfl; rfl; rfl))
             | (((with_reducible apply go_fieldAddr_own); rfl; rfl; rfl))
             | ((with_reducible (show evOp _ (.binOp _ _ _ _ _) _ _ _ _)) ; first | ((with_reducible apply go_cmp); rfl; rfl; rfl; rfl) | ((with_reducible apply go_add); rfl; rfl; rfl; omega) | ((with_reducible apply go_mul); rfl; rfl; rfl; omega))
             | ((with_reducible (show evOp _ (.call _) _ _ _ _)) ; first | ((with_reducible apply go_len); rfl; rfl) | ((with_reducible apply go_fn_bool); rfl; (exact c174' _ _ _); rfl) | ((with_reducible apply go_fn_bool); rfl; (exact c174'' _ _ _ _); rfl))
             | (((with_reducible apply go_not); rfl; rfl))
             | (((with_reducible apply go_pick); rfl; rfl; rfl))
             | (((with_reducible apply go_bx_agg); rfl; rfl; (exact Nat.le_of_ble_eq_true rfl); rfl; rfl))
             | ((with_reducible (show evOp _ (.buildSlice _ _ _) _ _ _ _)) ; first | ((with_reducible apply go_bs1_int); rfl; rfl; rfl) | ((with_reducible apply go_bs2_int); rfl; rfl; rfl; rfl)))
           | ((with_reducible (show evOps _ _ _ _ _ _)); first
             | (with_reducible apply go_nil)
             | ((with_reducible apply go_run); rfl; rfl)
             | ((with_reducible apply go_pass); rfl; rfl; rfl)
             | (((with_reducible apply go_guard); rfl) <;> (intro h; simp only [h, Bool.not_true, Bool.not_false]; (try with_reducible (refine ⟨rfl, ?_⟩)); try simp only [decide_eq_true_eq, decide_eq_false_iff_not, Bool.not_eq_true', Bool.not_eq_false', Bool.not_true, Bool.not_false] at h; try exact absurd trivial h)))
           | ((with_reducible (show evG _ _ _ _ _)); first
             | (with_reducible apply go_seq)
             | (with_reducible apply go_region)
             | ((with_reducible apply go_cond_t); rfl; rfl)
             | (((with_reducible apply go_cond); rfl) <;> (intro h; simp only [h]; try simp only [decide_eq_true_eq, decide_eq_false_iff_not, Bool.not_eq_true', Bool.not_eq_false', Bool.not_true, Bool.not_false] at h; try exact absurd trivial h))
             | (with_reducible apply go_ret)
             | (with_reducible apply go_block))
           | (with_reducible apply go_kseq)
           | (with_reducible apply go_kseq_ret)
           | (with_reducible apply go_kblock_ret)
           | ((with_reducible apply end_int); rfl)
           | (with_reducible rfl)
    all_goals first | rfl | (exfalso; omega)

def alikeE (a b : Grid) : Bool := decide (a.x = b.x ∧ a.y = b.y ∧ a.side = b.side ∧ a.cols = b.cols ∧ a.rows = b.rows)
theorem c145 (a b : Grid) : Contract Try.prog 145 [.agg (encGrid a), .agg (encGrid b)] (.ret (.bool (alikeE a b))) := by
  refine contract_of mix Try.func145 rfl rfl (by rw [Try.ntmps145]; exact Nat.le_of_ble_eq_true rfl) ?_; rw [Try.results145, Try.ntmps145]; simp only [argsE, Nat.reduceAdd]
  repeat' first
           | (with_reducible apply go_op)
           | (with_reducible apply go_next)
           | ((with_reducible (show evOp _ _ _ _ _ _)); first
             | (((with_reducible apply go_mv_bool); rfl; rfl))
             | ((with_reducible apply go_as))
             | (((with_reducible apply go_load_own); rfl; rfl; rfl; rfl))
             | (((with_reducible apply go_fieldAddr_own); rfl; rfl; rfl))
             | (((with_reducible apply go_cmp); rfl; rfl; rfl; rfl))
             | (((with_reducible apply go_pick); rfl; rfl; rfl))
             | (((with_reducible apply go_bx_agg); rfl; rfl; (exact Nat.le_of_ble_eq_true rfl); rfl; rfl)))
           | ((with_reducible (show evOps _ _ _ _ _ _)); first
             | (with_reducible apply go_nil)
             | ((with_reducible apply go_run); rfl; rfl)
             | ((with_reducible apply go_pass); rfl; rfl; rfl)
             | (((with_reducible apply go_guard); rfl) <;> (intro h; simp only [h, Bool.not_true, Bool.not_false]; (try with_reducible (refine ⟨rfl, ?_⟩)); try simp only [decide_eq_true_eq, decide_eq_false_iff_not, Bool.not_eq_true', Bool.not_eq_false', Bool.not_true, Bool.not_false] at h; try exact absurd trivial h)))
           | ((with_reducible (show evG _ _ _ _ _)); first
             | (with_reducible apply go_seq)
             | (with_reducible apply go_region)
             | (with_reducible apply go_ret))
           | (with_reducible apply go_kseq)
           | ((with_reducible apply end_bool); rfl)
  all_goals simp [alikeE, *]
theorem c40 (a b : Grid) : Contract Try.prog 40 [.agg (encGrid a), .agg (encGrid b)] (.ret (.bool (alikeE a b))) := by
  refine contract_of mix Try.func40 rfl rfl (by rw [Try.ntmps40]; exact Nat.le_of_ble_eq_true rfl) ?_; rw [Try.results40, Try.ntmps40]; simp only [argsE, Nat.reduceAdd]
  repeat' first
           | (with_reducible apply go_op)
           | (with_reducible apply go_next)
           | ((with_reducible (show evOp _ _ _ _ _ _)); first
             | (((with_reducible apply go_mv_bool); rfl; rfl))
             | ((with_reducible apply go_as))
             | (((with_reducible apply go_load_own); rfl; rfl; rfl; rfl))
             | (((with_reducible apply go_fieldAddr_own); rfl; rfl; rfl))
             | (((with_reducible apply go_cmp); rfl; rfl; rfl; rfl))
             | (((with_reducible apply go_pick); rfl; rfl; rfl))
             | (((with_reducible apply go_bx_agg); rfl; rfl; (exact Nat.le_of_ble_eq_true rfl); rfl; rfl)))
           | ((with_reducible (show evOps _ _ _ _ _ _)); first
             | (with_reducible apply go_nil)
             | ((with_reducible apply go_run); rfl; rfl)
             | ((with_reducible apply go_pass); rfl; rfl; rfl)
             | (((with_reducible apply go_guard); rfl) <;> (intro h; simp only [h, Bool.not_true, Bool.not_false]; (try with_reducible (refine ⟨rfl, ?_⟩)); try simp only [decide_eq_true_eq, decide_eq_false_iff_not, Bool.not_eq_true', Bool.not_eq_false', Bool.not_true, Bool.not_false] at h; try exact absurd trivial h)))
           | ((with_reducible (show evG _ _ _ _ _)); first
             | (with_reducible apply go_seq)
             | (with_reducible apply go_region)
             | (with_reducible apply go_ret))
           | (with_reducible apply go_kseq)
           | ((with_reducible apply end_bool); rfl)
  all_goals simp [alikeE, *]
theorem c53 (a b : Grid) : Contract Try.prog 53 [.agg (encGrid a), .agg (encGrid b)] (.ret (.int .i64 (if alikeE a b = true then 0 else 10))) := by
  refine contract_of mix Try.func53 rfl rfl (by rw [Try.ntmps53]; exact Nat.le_of_ble_eq_true rfl) ?_; rw [Try.results53, Try.ntmps53]; simp only [argsE, Nat.reduceAdd]
  repeat' first
           | (with_reducible apply go_op)
           | (with_reducible apply go_next)
           | ((with_reducible (show evOp _ _ _ _ _ _)); first
             | (((with_reducible apply go_mv_int); rfl; rfl))
             | ((with_reducible apply go_as))
             | (((with_reducible apply go_ld_agg); rfl; rfl; rfl; rfl))
             | (((with_reducible apply go_fn_bool); rfl; (exact c40 _ _); rfl))
             | (((with_reducible apply go_not); rfl; rfl))
             | (((with_reducible apply go_bx_agg); rfl; rfl; (exact Nat.le_of_ble_eq_true rfl); rfl; rfl)))
           | ((with_reducible (show evOps _ _ _ _ _ _)); first
             | (with_reducible apply go_nil))
           | ((with_reducible (show evG _ _ _ _ _)); first
             | (with_reducible apply go_seq)
             | (with_reducible apply go_region)
             | (((with_reducible apply go_cond); rfl) <;> (intro h; simp only [h]; try simp only [decide_eq_true_eq, decide_eq_false_iff_not, Bool.not_eq_true', Bool.not_eq_false', Bool.not_true, Bool.not_false] at h; try exact absurd trivial h))
             | (with_reducible apply go_ret)
             | (with_reducible apply go_skipc))
           | (with_reducible apply go_kseq)
           | (with_reducible apply go_kseq_ret)
           | ((with_reducible apply end_int); rfl)
  all_goals simp [*]

theorem c28 (g : Grid) (hl : g.levels.length < 1000000000000) : Contract Try.prog 28 [.agg (encGrid g)] (.ret (.int .i64 (gridE g))) := by
  by_cases hg : ((-1000000 ≤ g.x ∧ g.x ≤ 1000000) ∧ -1000000 ≤ g.y ∧ g.y ≤ 1000000) ∧ (100 ≤ g.side ∧ g.side ≤ 10000) ∧ (1 ≤ g.cols ∧ g.cols ≤ 1024) ∧ 1 ≤ g.rows ∧ g.rows ≤ 1024
  · have b1 := mul_bd hg.2.2.1 hg.2.2.2
    have b2 := mul_bd hg.2.2.1 (b := g.side) (n := 10000) (by omega)
    have b3 := mul_bd hg.2.2.2 (b := g.side) (n := 10000) (by omega)
    refine contract_of mix Try.func28 rfl rfl (by rw [Try.ntmps28]; exact Nat.le_of_ble_eq_true rfl) ?_; rw [Try.results28, Try.ntmps28]; simp only [argsE, Nat.reduceAdd]
    repeat' first
           | (with_reducible apply go_op)
           | (with_reducible apply go_next)
           | ((with_reducible (show evOp _ _ _ _ _ _)); first
             | ((with_reducible (show evOp _ (.move _) _ _ _ _)) ; first | ((with_reducible apply go_mv_int); rfl; rfl) | ((with_reducible apply go_mv_bool); rfl; rfl))
             | ((with_reducible apply go_as))
             | (((with_reducible apply go_load_own); rfl; rfl; rfl; rfl))
             | (((with_reducible apply go_fieldAddr_own); rfl; rfl; rfl))
             | ((with_reducible (show evOp _ (.binOp _ _ _ _ _) _ _ _ _)) ; first | ((with_reducible apply go_cmp); rfl; rfl; rfl; rfl) | ((with_reducible apply go_add); rfl; rfl; rfl; omega) | ((with_reducible apply go_mul); rfl; rfl; rfl; omega))
             | ((with_reducible (show evOp _ (.call _) _ _ _ _)) ; first | ((with_reducible apply go_len); rfl; rfl) | ((with_reducible apply go_fn_bool); rfl; (exact c38 _ _ _); rfl))
             | (((with_reducible apply go_not); rfl; rfl))
             | (((with_reducible apply go_pick); rfl; rfl; rfl))
             | (((with_reducible apply go_bx_agg); rfl; rfl; (exact Nat.le_of_ble_eq_true rfl); rfl; rfl)))
           | ((with_reducible (show evOps _ _ _ _ _ _)); first
             | (with_reducible apply go_nil)
             | ((with_reducible apply go_run); rfl; rfl)
             | ((with_reducible apply go_pass); rfl; rfl; rfl)
             | (((with_reducible apply go_guard); rfl) <;> (intro h; simp only [h, Bool.not_true, Bool.not_false]; (try with_reducible (refine ⟨rfl, ?_⟩)); try simp only [decide_eq_true_eq, decide_eq_false_iff_not, Bool.not_eq_true', Bool.not_eq_false', Bool.not_true, Bool.not_false] at h; try exact absurd trivial h)))
           | ((with_reducible (show evG _ _ _ _ _)); first
             | (with_reducible apply go_seq)
             | (with_reducible apply go_region)
             | ((with_reducible apply go_cond_t); rfl; rfl)
             | (((with_reducible apply go_cond); rfl) <;> (intro h; simp only [h]; try simp only [decide_eq_true_eq, decide_eq_false_iff_not, Bool.not_eq_true', Bool.not_eq_false', Bool.not_true, Bool.not_false] at h; try exact absurd trivial h))
             | (with_reducible apply go_ret)
             | (with_reducible apply go_skipc)
             | (with_reducible apply go_block))
           | (with_reducible apply go_kseq)
           | (with_reducible apply go_kseq_ret)
           | ((with_reducible apply end_int); rfl)
    all_goals first | (unfold gridE; (repeat' split) <;> first | rfl | (exfalso; omega) | (exfalso; simp_all; done)) | skip
    have e : gridE g = if g.levels.any badLv then 2 else 0 := by
      unfold gridE; rw [if_neg (by omega), if_neg (by omega), if_neg (by omega), if_neg (by omega)]
    rw [e]
    refine go_count (g.levels.length) (fun i => ⟨[(3, .int .i64 i), (1, .op 0 0 0)], [(0, ⟨6, true, [encGrid g]⟩)], 32, 89⟩) (fun i => ∀ j (hj : j < i) (hj' : j < g.levels.length), badLv g.levels[j] = false) (entails_eq (k := 0) (ns := []) (ks := [3, 1]) [(0, 0)] rfl (by simp) rfl) (fun j h _ => absurd h (Nat.not_lt_zero _)) ?_
    intro i hi hC
    repeat' first
           | (with_reducible apply go_op)
           | (with_reducible apply go_next)
           | ((with_reducible (show evOp _ _ _ _ _ _)); first
             | ((with_reducible (show evOp _ (.move _) _ _ _ _)) ; first | ((with_reducible apply go_mv_int); rfl; rfl) | ((with_reducible apply go_mv_bool); rfl; rfl))
             | ((with_reducible apply go_as))
             | ((with_reducible (show evOp _ (.load _ _) _ _ _ _)) ; first | ((with_reducible apply go_load); rfl; rfl; rfl) | ((with_reducible apply go_load_own); rfl; rfl; rfl; rfl))
             | (((with_reducible apply go_fieldAddr_own); rfl; rfl; rfl))
             | (((with_reducible apply go_index_nat); rfl; rfl; (with_reducible rfl); (intro; rfl); rfl; omega; (intro hlt)))
             | ((with_reducible (show evOp _ (.binOp _ _ _ _ _) _ _ _ _)) ; first | ((with_reducible apply go_cmp); rfl; rfl; rfl; rfl) | ((with_reducible apply go_add); rfl; rfl; rfl; omega))
             | ((with_reducible (show evOp _ (.call _) _ _ _ _)) ; first | ((with_reducible apply go_len); rfl; rfl) | ((with_reducible apply go_fn_bool); rfl; (exact c48 _); rfl))
             | (((with_reducible apply go_not); rfl; rfl))
             | (((with_reducible apply go_pick); rfl; rfl; rfl)))
           | ((with_reducible (show evOps _ _ _ _ _ _)); first
             | (with_reducible apply go_nil)
             | ((with_reducible apply go_run); rfl; rfl)
             | ((with_reducible apply go_pass); rfl; rfl; rfl)
             | (((with_reducible apply go_guard); rfl) <;> (intro h; simp only [h, Bool.not_true, Bool.not_false]; (try with_reducible (refine ⟨rfl, ?_⟩)); try simp only [decide_eq_true_eq, decide_eq_false_iff_not, Bool.not_eq_true', Bool.not_eq_false', Bool.not_true, Bool.not_false] at h; try exact absurd trivial h)))
           | ((with_reducible (show evG _ _ _ _ _)); first
             | (with_reducible apply go_seq)
             | (with_reducible apply go_region)
             | ((with_reducible apply go_cond_f); rfl; rfl)
             | (((with_reducible apply go_cond); rfl) <;> (intro h; simp only [h]; try simp only [decide_eq_true_eq, decide_eq_false_iff_not, Bool.not_eq_true', Bool.not_eq_false', Bool.not_true, Bool.not_false] at h; try exact absurd trivial h))
             | (with_reducible apply go_ret)
             | (with_reducible apply go_skipc)
             | (with_reducible apply go_block)
             | (with_reducible apply go_exit))
           | (with_reducible apply go_kseq)
           | (with_reducible apply go_kseq_ret)
           | (with_reducible apply go_kblock)
           | (with_reducible apply go_kblock_ret)
           | (with_reducible apply go_kblock_exit)
           | (with_reducible apply go_kseq_exit)
           | ((with_reducible apply end_int); rfl)
    · have h1 : ¬ g.levels[i] = 30000 := by assumption
      rw [if_pos (List.any_eq_true.2 ⟨g.levels[i], List.getElem_mem _, by simp [badLv, h, h1]⟩)]
    · have h2 : i < g.levels.length := by omega
      refine ⟨h2, fun j hj hj' => ?_, entails_eq (k := 0) (ns := []) (ks := [3, 1]) [(0, 0)] rfl (by simp) rfl⟩
      rcases Nat.lt_succ_iff_lt_or_eq.1 hj with h' | rfl
      · exact hC j h' hj'
      · simp [badLv, h]
    · have h2 : i < g.levels.length := by omega
      refine ⟨h2, fun j hj hj' => ?_, entails_eq (k := 0) (ns := []) (ks := [3, 1]) [(0, 0)] rfl (by simp) rfl⟩
      rcases Nat.lt_succ_iff_lt_or_eq.1 hj with h' | rfl
      · exact hC j h' hj'
      · simp [badLv, h]
    · rw [if_neg]
      intro hh
      obtain ⟨x, hx, hb⟩ := List.any_eq_true.1 hh
      obtain ⟨j, hj, rfl⟩ := List.mem_iff_getElem.1 hx
      rw [hC j (by omega) hj] at hb
      cases hb
  · have e : gridE g = 2 := by unfold gridE; rw [if_pos hg]
    rw [e]
    refine contract_of mix Try.func28 rfl rfl (by rw [Try.ntmps28]; exact Nat.le_of_ble_eq_true rfl) ?_; rw [Try.results28, Try.ntmps28]; simp only [argsE, Nat.reduceAdd]
    repeat' first
           | (with_reducible apply go_op)
           | (with_reducible apply go_next)
           | ((with_reducible (show evOp _ _ _ _ _ _)); first
             | ((with_reducible (show evOp _ (.move _) _ _ _ _)) ; first | ((with_reducible apply go_mv_int); rfl; rfl) | ((with_reducible apply go_mv_bool); rfl; rfl))
             | ((with_reducible apply go_as))
             | (((with_reducible apply go_load_own); rfl; rfl; rfl; rfl))
             | (((with_reducible apply go_fieldAddr_own); rfl; rfl; rfl))
             | ((with_reducible (show evOp _ (.binOp _ _ _ _ _) _ _ _ _)) ; first | ((with_reducible apply go_cmp); rfl; rfl; rfl; rfl) | ((with_reducible apply go_add); rfl; rfl; rfl; omega) | ((with_reducible apply go_mul); rfl; rfl; rfl; omega))
             | ((with_reducible (show evOp _ (.call _) _ _ _ _)) ; first | ((with_reducible apply go_len); rfl; rfl) | ((with_reducible apply go_fn_bool); rfl; (exact c38 _ _ _); rfl))
             | (((with_reducible apply go_not); rfl; rfl))
             | (((with_reducible apply go_pick); rfl; rfl; rfl))
             | (((with_reducible apply go_bx_agg); rfl; rfl; (exact Nat.le_of_ble_eq_true rfl); rfl; rfl)))
           | ((with_reducible (show evOps _ _ _ _ _ _)); first
             | (with_reducible apply go_nil)
             | ((with_reducible apply go_run); rfl; rfl)
             | ((with_reducible apply go_pass); rfl; rfl; rfl)
             | (((with_reducible apply go_guard); rfl) <;> (intro h; simp only [h, Bool.not_true, Bool.not_false]; (try with_reducible (refine ⟨rfl, ?_⟩)); try simp only [decide_eq_true_eq, decide_eq_false_iff_not, Bool.not_eq_true', Bool.not_eq_false', Bool.not_true, Bool.not_false] at h; try exact absurd trivial h)))
           | ((with_reducible (show evG _ _ _ _ _)); first
             | (with_reducible apply go_seq)
             | (with_reducible apply go_region)
             | ((with_reducible apply go_cond_t); rfl; rfl)
             | (((with_reducible apply go_cond); rfl) <;> (intro h; simp only [h]; try simp only [decide_eq_true_eq, decide_eq_false_iff_not, Bool.not_eq_true', Bool.not_eq_false', Bool.not_true, Bool.not_false] at h; try exact absurd trivial h))
             | (with_reducible apply go_ret)
             | (with_reducible apply go_skipc)
             | (with_reducible apply go_block))
           | (with_reducible apply go_kseq)
           | (with_reducible apply go_kseq_ret)
           | ((with_reducible apply end_int); rfl)
           | (with_reducible rfl)
    all_goals first | rfl | (exfalso; omega)
end Go.Pv.Soil

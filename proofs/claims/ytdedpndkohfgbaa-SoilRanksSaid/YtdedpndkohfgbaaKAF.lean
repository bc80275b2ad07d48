import Derived.Test.YtdedpndkohfgbaaProg
import Derived.Test.YtdedpndkohfgbaaKAE
import Derived.KernelRfl
import Derived.Test.YtdedpndkohfgbaaKAC
import Derived.Test.YtdedpndkohfgbaaKAD
/- Part of the proofs over Ytdedpndkohfgbaa: S5, S6, S7, S8, S9, S15, U6, S10, S11, S12, U8, U9, R0, R8. -/
set_option linter.unusedVariables false
set_option linter.unusedSimpArgs false
set_option linter.unnecessarySimpa false
open Go Go.Proofs Go.Pv
set_option maxHeartbeats 1000000
set_option maxRecDepth 100000
set_option linter.unusedSimpArgs false
set_option linter.unusedVariables false
namespace Go.Pv.Soil

structure Layer where
  top : Int
  soil : ByteArray
structure Boring where
  name : ByteArray
  x : Int
  y : Int
  layers : List Layer
structure Pt where
  x : Int
  y : Int
def encLayer (l : Layer) : List D := [.int .i64 l.top, .str l.soil]
def encBor (b : Boring) : List D := [.str b.name, .int .i64 b.x, .int .i64 b.y, .sl (b.layers.map encLayer)]
def encPt (p : Pt) : List D := [.int .i64 p.x, .int .i64 p.y]

theorem c177 (l : List Boring) (hl : l.length < 1000000000000) (g : FuncId) (ys : List D) (hst : Stab ys) (hpu : pureL ys = true) (p : Boring → Bool) (hf : ∀ x ∈ l, Contract Try.prog g (.agg (encBor x) :: ys) (.ret (.bool (p x)))) :
    Contract Try.prog 177 [.sl (l.map encBor), .clo (.func g) [] ys] (.ret (.int .i64 (idxOf p l))) := by
  refine contract_of mix Try.func177 rfl rfl (by rw [Try.ntmps177]; exact Nat.le_of_ble_eq_true rfl) ?_; rw [Try.results177, Try.ntmps177]; simp only [argsE, Nat.reduceAdd]
  repeat' first
           | (with_reducible apply go_op)
           | (with_reducible apply go_next)
           | ((with_reducible (show evOp _ _ _ _ _ _)); first
             | ((with_reducible (show evOp _ (.move _) _ _ _ _)) ; first | ((with_reducible apply go_mv_int); rfl; rfl) | ((with_reducible apply go_mv_sl); rfl; rfl))
             | ((with_reducible apply go_as))
             | (((with_reducible apply go_len); rfl; rfl)))
           | ((with_reducible (show evOps _ _ _ _ _ _)); first
             | (with_reducible apply go_nil))
           | ((with_reducible (show evG _ _ _ _ _)); first
             | (with_reducible apply go_seq)
             | (with_reducible apply go_region)
             | (with_reducible apply go_block))
           | (with_reducible apply go_kseq)
  have e8 : ∀ i : Nat, (⟨[(8, .int .i64 i), (7, .int .i64 l.length), (0, .sl (l.map encBor)), (1, .clo (.func g) [] (renL [] ys))], [], 0, 19⟩ : St) = ⟨[(8, .int .i64 i), (7, .int .i64 l.length), (0, .sl (l.map encBor)), (1, .clo (.func g) [] ys)], [], 0, 19⟩ := fun i => by rw [renL_pure hpu]
  refine go_count l.length (fun i => ⟨[(8, .int .i64 i), (7, .int .i64 l.length), (0, .sl (l.map encBor)), (1, .clo (.func g) [] ys)], [], 0, 19⟩) (fun i => ∀ j (hj : j < i) (hj' : j < l.length), p l[j] = false) (entails_eq (k := 0) (ns := []) (ks := [8, 7, 0, 1]) [] rfl (by simp) (e8 _)) (by omega) ?_
  intro i hi hC
  repeat' first
           | (with_reducible apply go_op)
           | (with_reducible apply go_next)
           | ((with_reducible (show evOp _ _ _ _ _ _)); first
             | ((with_reducible (show evOp _ (.move _) _ _ _ _)) ; first | ((with_reducible apply go_mv_int); rfl; rfl) | ((with_reducible apply go_mv_sl); rfl; rfl) | ((with_reducible apply go_mv_clo); rfl; rfl))
             | ((with_reducible apply go_as))
             | (((with_reducible apply go_load); rfl; rfl; rfl))
             | (((with_reducible apply go_index); rfl; rfl; (intro; rfl); rfl; omega; intro hlt))
             | (((with_reducible apply go_cmp); rfl; rfl; rfl; rfl)))
           | ((with_reducible (show evOps _ _ _ _ _ _)); first
             | (with_reducible apply go_nil))
           | ((with_reducible (show evG _ _ _ _ _)); first
             | (with_reducible apply go_seq)
             | (with_reducible apply go_region)
             | (((with_reducible apply go_cond); rfl) <;> (intro h; simp only [h]; try simp only [decide_eq_true_eq, decide_eq_false_iff_not, Bool.not_eq_true', Bool.not_eq_false', Bool.not_true, Bool.not_false] at h; try exact absurd trivial h))
             | (with_reducible apply go_ret)
             | (with_reducible apply go_skipc)
             | (with_reducible apply go_block)
             | (with_reducible apply go_exit))
           | (with_reducible apply go_kseq)
           | (with_reducible apply go_kblock_exit)
           | (with_reducible apply go_kseq_exit)
           | ((with_reducible apply end_int); rfl)
  · refine go_clo_bool rfl rfl hst (hf l[i] (List.getElem_mem _)) rfl ?_
    repeat' first
           | (with_reducible apply go_op)
           | (with_reducible apply go_next)
           | ((with_reducible (show evOp _ _ _ _ _ _)); first
             | (((with_reducible apply go_mv_int); rfl; rfl))
             | ((with_reducible apply go_as))
             | (((with_reducible apply go_add); rfl; rfl; rfl; omega)))
           | ((with_reducible (show evOps _ _ _ _ _ _)); first
             | (with_reducible apply go_nil))
           | ((with_reducible (show evG _ _ _ _ _)); first
             | (with_reducible apply go_seq)
             | (with_reducible apply go_region)
             | (((with_reducible apply go_cond); rfl) <;> (intro h; simp only [h]; try simp only [decide_eq_true_eq, decide_eq_false_iff_not, Bool.not_eq_true', Bool.not_eq_false', Bool.not_true, Bool.not_false] at h; try exact absurd trivial h))
             | (with_reducible apply go_ret)
             | (with_reducible apply go_skipc))
           | (with_reducible apply go_kseq)
           | (with_reducible apply go_kseq_ret)
           | (with_reducible apply go_kblock)
           | (with_reducible apply go_kblock_ret)
           | ((with_reducible apply end_int); rfl)
    · have h2 : i < l.length := by omega
      exact (idxOf_some h2 h fun j hj => hC j hj (by omega)).symm
    · have h2 : i < l.length := by omega
      refine ⟨by omega, fun j hj hj' => ?_, entails_eq (k := 0) (ns := []) (ks := [8, 7, 0, 1]) [] rfl (by simp) (e8 _)⟩
      rcases Nat.lt_succ_iff_lt_or_eq.1 hj with h' | rfl
      · exact hC j h' hj'
      · exact h
  · refine (idxOf_none fun x hx => ?_).symm
    obtain ⟨j, hj, rfl⟩ := List.mem_iff_getElem.1 hx
    exact hC j (by omega) hj


theorem c140 (l : List Boring) (hl : l.length < 1000000000000) (g : FuncId) (ys : List D) (hst : Stab ys) (hpu : pureL ys = true) (p : Boring → Bool) (hf : ∀ x ∈ l, Contract Try.prog g (.agg (encBor x) :: ys) (.ret (.bool (p x)))) :
    Contract Try.prog 140 [.sl (l.map encBor), .clo (.func g) [] ys] (.ret (.bool (l.any p))) := by
  refine contract_of mix Try.func140 rfl rfl (by rw [Try.ntmps140]; exact Nat.le_of_ble_eq_true rfl) ?_; rw [Try.results140, Try.ntmps140]; simp only [argsE, Nat.reduceAdd]
  repeat' first
           | (with_reducible apply go_op)
           | (with_reducible apply go_next)
           | ((with_reducible (show evOp _ _ _ _ _ _)); first
             | ((with_reducible (show evOp _ (.move _) _ _ _ _)) ; first | ((with_reducible apply go_mv_bool); rfl; rfl) | ((with_reducible apply go_mv_sl); rfl; rfl) | ((with_reducible apply go_mv_clo); rfl; rfl))
             | ((with_reducible apply go_as)))
           | ((with_reducible (show evOps _ _ _ _ _ _)); first
             | (with_reducible apply go_nil))
           | ((with_reducible (show evG _ _ _ _ _)); first
             | (with_reducible apply go_seq)
             | (with_reducible apply go_region))
           | (with_reducible apply go_kseq)
  refine go_fn_int (args' := [.sl (l.map encBor), .clo (.func g) [] ys]) ?_ (c177 l hl g ys hst hpu p hf) rfl ?_
  · have e := hst (lkH []) 45
    simp only [List.map_cons, List.map_nil, evalD, lkE, purL, pur, Option.bind_some, Option.map_some, Nat.reduceEqDiff, if_true, if_false, e]
  repeat' first
           | (with_reducible apply go_op)
           | (with_reducible apply go_next)
           | ((with_reducible (show evOp _ _ _ _ _ _)); first
             | (((with_reducible apply go_mv_bool); rfl; rfl))
             | ((with_reducible apply go_as))
             | (((with_reducible apply go_cmp); rfl; rfl; rfl; rfl)))
           | ((with_reducible (show evOps _ _ _ _ _ _)); first
             | (with_reducible apply go_nil))
           | ((with_reducible (show evG _ _ _ _ _)); first
             | (with_reducible apply go_ret))
           | (with_reducible apply go_kseq)
           | ((with_reducible apply end_bool); rfl)
  exact idxOf_ge


theorem c87 (x : Boring) : Contract Try.prog 87 [.agg (encBor x)] (.ret (.str x.name)) := by
  refine contract_of mix Try.func87 rfl rfl (by rw [Try.ntmps87]; exact Nat.le_of_ble_eq_true rfl) ?_; rw [Try.results87, Try.ntmps87]; simp only [argsE, Nat.reduceAdd]
  repeat' first
           | (with_reducible apply go_op)
           | (with_reducible apply go_next)
           | ((with_reducible (show evOp _ _ _ _ _ _)); first
             | (((with_reducible apply go_mv_str); rfl; rfl))
             | ((with_reducible apply go_as))
             | (((with_reducible apply go_load_own); rfl; rfl; rfl; rfl))
             | (((with_reducible apply go_fieldAddr_own); rfl; rfl; rfl))
             | (((with_reducible apply go_bx_agg); rfl; rfl; (exact Nat.le_of_ble_eq_true rfl); rfl; rfl)))
           | ((with_reducible (show evOps _ _ _ _ _ _)); first
             | (with_reducible apply go_nil))
           | ((with_reducible (show evG _ _ _ _ _)); first
             | (with_reducible apply go_seq)
             | (with_reducible apply go_region)
             | (with_reducible apply go_ret))
           | (with_reducible apply go_kseq)
           | ((with_reducible apply end_str); rfl)
           | (with_reducible rfl)


theorem c141 (x : Boring) (s nm : ByteArray) (g : FuncId) (hn : Contract Try.prog g [.agg (encBor x)] (.ret (.str nm))) : Contract Try.prog 141 [.agg (encBor x), .ptr [.clo (.func g) [] []], .ptr [.str s]] (.ret (.bool (decide (nm = s)))) := by
  refine contract_of mix Try.func141 rfl rfl (by rw [Try.ntmps141]; exact Nat.le_of_ble_eq_true rfl) ?_; rw [Try.results141, Try.ntmps141]; simp only [argsE, Nat.reduceAdd]
  repeat' first
           | (with_reducible apply go_op)
           | (with_reducible apply go_next)
           | ((with_reducible (show evOp _ _ _ _ _ _)); first
             | (((with_reducible apply go_mv_bool); rfl; rfl))
             | ((with_reducible apply go_as))
             | ((with_reducible (show evOp _ (.load _ _) _ _ _ _)) ; first | ((with_reducible apply go_load); rfl; rfl; rfl) | ((with_reducible apply go_load_own); rfl; rfl; rfl; rfl))
             | (((with_reducible apply go_bx_agg); rfl; rfl; (exact Nat.le_of_ble_eq_true rfl); rfl; rfl)))
           | ((with_reducible (show evOps _ _ _ _ _ _)); first
             | (with_reducible apply go_nil)
             | ((with_reducible apply go_pre); rfl))
           | ((with_reducible (show evG _ _ _ _ _)); first
             | (with_reducible apply go_seq)
             | (with_reducible apply go_region)
             | ((with_reducible apply go_order); kernel_rfl; rfl))
           | (with_reducible apply go_kseq)
  refine go_clo_str (d1 := .agg (encBor x)) rfl rfl (fun _ _ => rfl) hn rfl ?_
  repeat' first
           | (with_reducible apply go_op)
           | (with_reducible apply go_next)
           | ((with_reducible (show evOp _ _ _ _ _ _)); first
             | (((with_reducible apply go_mv_bool); rfl; rfl))
             | ((with_reducible apply go_as))
             | (((with_reducible apply go_load); rfl; rfl; rfl))
             | (((with_reducible apply go_bin); rfl; rfl)))
           | ((with_reducible (show evOps _ _ _ _ _ _)); first
             | (with_reducible apply go_nil)
             | ((with_reducible apply go_pre); rfl)
             | (with_reducible apply go_pre_nil)
             | ((with_reducible apply go_suf); rfl)
             | (with_reducible apply go_suf_nil))
           | ((with_reducible (show evG _ _ _ _ _)); first
             | (with_reducible apply go_ret))
           | (with_reducible apply go_kseq)
           | (with_reducible apply go_ksuf)
           | ((with_reducible apply end_bool); rfl)
           | (with_reducible rfl)


theorem c86 (l : List Boring) (hl : l.length < 1000000000000) (g g' : FuncId) (nm : Boring → ByteArray) (er : Boring → Int) (hn : ∀ x, Contract Try.prog g [.agg (encBor x)] (.ret (.str (nm x)))) (he : ∀ x, Contract Try.prog g' [.agg (encBor x)] (.ret (.int .i64 (er x)))) :
    Contract Try.prog 86 [.sl (l.map encBor), .clo (.func g) [] [], .clo (.func g') [] []] (.ret (.int .i64 (eachE nm er l))) := by
  refine contract_of mix Try.func86 rfl rfl (by rw [Try.ntmps86]; exact Nat.le_of_ble_eq_true rfl) ?_; rw [Try.results86, Try.ntmps86]; simp only [argsE, Nat.reduceAdd]
  repeat' first
           | (with_reducible apply go_op)
           | (with_reducible apply go_next)
           | ((with_reducible (show evOp _ _ _ _ _ _)); first
             | ((with_reducible (show evOp _ (.move _) _ _ _ _)) ; first | ((with_reducible apply go_mv_int); rfl; rfl) | ((with_reducible apply go_mv_sl); rfl; rfl))
             | ((with_reducible apply go_as))
             | (((with_reducible apply go_len); rfl; rfl))
             | (((with_reducible apply go_bx_clo); rfl; rfl)))
           | ((with_reducible (show evOps _ _ _ _ _ _)); first
             | (with_reducible apply go_nil))
           | ((with_reducible (show evG _ _ _ _ _)); first
             | (with_reducible apply go_seq)
             | (with_reducible apply go_region)
             | (with_reducible apply go_block))
           | (with_reducible apply go_kseq)
  refine go_count l.length (fun i => ⟨[(13, .int .i64 i), (12, .int .i64 l.length), (11, .sl (l.map encBor)), (0, .sl (l.map encBor)), (2, .clo (.func g') [] []), (4, .op 0 0 0)], [(0, ⟨1, false, [[.clo (.func g) [] []]]⟩)], 32, 36⟩) (fun i => ∀ j, j < i → stepE nm er l j = 0) (entails_eq (k := 0) (ns := []) (ks := [13, 12, 11, 0, 2, 4]) [(0, 0)] rfl (by simp) rfl) (by omega) ?_
  intro i hi hC
  repeat' first
           | (with_reducible apply go_op)
           | (with_reducible apply go_next)
           | ((with_reducible (show evOp _ _ _ _ _ _)); first
             | (((with_reducible apply go_mv_int); rfl; rfl))
             | ((with_reducible apply go_as))
             | ((with_reducible (show evOp _ (.load _ _) _ _ _ _)) ; first | ((with_reducible apply go_load); rfl; rfl; rfl) | ((with_reducible apply go_load_own); rfl; rfl; rfl; rfl))
             | (((with_reducible apply go_index); rfl; rfl; (intro; rfl); rfl; omega; intro hlt))
             | (((with_reducible apply go_cmp); rfl; rfl; rfl; rfl))
             | (((with_reducible apply go_st_agg); rfl; rfl; rfl; rfl; rfl; rfl; rfl))
             | (((with_reducible apply go_alloc); rfl; rfl; rfl)))
           | ((with_reducible (show evOps _ _ _ _ _ _)); first
             | (with_reducible apply go_nil))
           | ((with_reducible (show evG _ _ _ _ _)); first
             | (with_reducible apply go_seq)
             | (with_reducible apply go_region)
             | (((with_reducible apply go_cond); rfl) <;> (intro h; simp only [h]; try simp only [decide_eq_true_eq, decide_eq_false_iff_not, Bool.not_eq_true', Bool.not_eq_false', Bool.not_true, Bool.not_false] at h; try exact absurd trivial h))
             | (with_reducible apply go_ret)
             | (with_reducible apply go_skipc)
             | (with_reducible apply go_block)
             | (with_reducible apply go_exit))
           | (with_reducible apply go_kseq)
           | (with_reducible apply go_kblock_exit)
           | (with_reducible apply go_kseq_exit)
           | ((with_reducible apply end_int); rfl)
  refine go_clo_str (d1 := .agg (encBor l[i])) rfl rfl (fun _ _ => rfl) (hn _) rfl ?_
  repeat' first
           | (with_reducible apply go_op)
           | (with_reducible apply go_next)
           | ((with_reducible (show evOp _ _ _ _ _ _)); first
             | (((with_reducible apply go_load_own); rfl; rfl; rfl; rfl))
             | (((with_reducible apply go_st_str); rfl; rfl; rfl))
             | (((with_reducible apply go_alloc); rfl; rfl; rfl)))
           | ((with_reducible (show evOps _ _ _ _ _ _)); first
             | (with_reducible apply go_nil))
           | ((with_reducible (show evG _ _ _ _ _)); first
             | (with_reducible apply go_seq)
             | (with_reducible apply go_region))
           | (with_reducible apply go_kseq)
  refine go_fn_bool (args' := [.str (nm l[i])]) rfl (c137 _) rfl ?_
  repeat' first
           | (with_reducible apply go_op)
           | (with_reducible apply go_next)
           | ((with_reducible (show evOp _ _ _ _ _ _)); first
             | ((with_reducible (show evOp _ (.move _) _ _ _ _)) ; first | ((with_reducible apply go_mv_int); rfl; rfl) | ((with_reducible apply go_mv_sl); rfl; rfl))
             | ((with_reducible apply go_as))
             | (((with_reducible apply go_take_sl); rfl; rfl; (intro; rfl); rfl; omega))
             | (((with_reducible apply go_not); rfl; rfl))
             | (((with_reducible apply go_fn2); rfl; rfl; rfl)))
           | ((with_reducible (show evOps _ _ _ _ _ _)); first
             | (with_reducible apply go_nil))
           | ((with_reducible (show evG _ _ _ _ _)); first
             | (with_reducible apply go_seq)
             | (with_reducible apply go_region)
             | (((with_reducible apply go_cond); rfl) <;> (intro h; simp only [h]; try simp only [decide_eq_true_eq, decide_eq_false_iff_not, Bool.not_eq_true', Bool.not_eq_false', Bool.not_true, Bool.not_false] at h; try exact absurd trivial h))
             | (with_reducible apply go_ret)
             | (with_reducible apply go_skipc))
           | (with_reducible apply go_kseq)
           | (with_reducible apply go_kseq_ret)
           | (with_reducible apply go_kblock_ret)
           | ((with_reducible apply end_int); rfl)
  · have h2 : i < l.length := by omega
    exact each_at h2 hC (by simp [stepE, h2, h]) (by decide)
  refine go_fn_bool (args' := [.sl ((l.take i).map encBor), .clo (.func 141) [] [.ptr [.clo (.func g) [] []], .ptr [.str (nm l[i])]]]) rfl (c140 (l.take i) (by simp; omega) 141 _ (fun _ _ => rfl) rfl (fun y => decide (nm y = nm l[i])) fun y _ => c141 y _ _ g (hn y)) rfl ?_
  repeat' first
           | (with_reducible apply go_op)
           | (with_reducible apply go_next)
           | ((with_reducible (show evOp _ _ _ _ _ _)); first
             | ((with_reducible (show evOp _ (.move _) _ _ _ _)) ; first | ((with_reducible apply go_mv_int); rfl; rfl) | ((with_reducible apply go_mv_clo); rfl; rfl))
             | ((with_reducible apply go_as))
             | (((with_reducible apply go_load_own); rfl; rfl; rfl; rfl)))
           | ((with_reducible (show evOps _ _ _ _ _ _)); first
             | (with_reducible apply go_nil))
           | ((with_reducible (show evG _ _ _ _ _)); first
             | (with_reducible apply go_seq)
             | (with_reducible apply go_region)
             | (((with_reducible apply go_cond); rfl) <;> (intro h; simp only [h]; try simp only [decide_eq_true_eq, decide_eq_false_iff_not, Bool.not_eq_true', Bool.not_eq_false', Bool.not_true, Bool.not_false] at h; try exact absurd trivial h))
             | (with_reducible apply go_ret)
             | (with_reducible apply go_skipc))
           | (with_reducible apply go_kseq)
           | (with_reducible apply go_kseq_ret)
           | (with_reducible apply go_kblock_ret)
           | ((with_reducible apply end_int); rfl)
  · rename_i h1 _
    have h2 : i < l.length := by omega
    exact each_at h2 hC (by simp only [stepE, List.getElem?_eq_getElem h2, h, *]; simp) (by decide)
  refine go_clo_int (d1 := .agg (encBor l[i])) rfl rfl (fun _ _ => rfl) (he _) rfl ?_
  repeat' first
           | (with_reducible apply go_op)
           | (with_reducible apply go_next)
           | ((with_reducible (show evOp _ _ _ _ _ _)); first
             | (((with_reducible apply go_mv_int); rfl; rfl))
             | ((with_reducible apply go_as))
             | ((with_reducible (show evOp _ (.binOp _ _ _ _ _) _ _ _ _)) ; first | ((with_reducible apply go_cmp); rfl; rfl; rfl; rfl) | ((with_reducible apply go_add); rfl; rfl; rfl; omega)))
           | ((with_reducible (show evOps _ _ _ _ _ _)); first
             | (with_reducible apply go_nil))
           | ((with_reducible (show evG _ _ _ _ _)); first
             | (with_reducible apply go_seq)
             | (with_reducible apply go_region)
             | (((with_reducible apply go_cond); rfl) <;> (intro h; simp only [h]; try simp only [decide_eq_true_eq, decide_eq_false_iff_not, Bool.not_eq_true', Bool.not_eq_false', Bool.not_true, Bool.not_false] at h; try exact absurd trivial h))
             | (with_reducible apply go_ret)
             | (with_reducible apply go_skipc))
           | (with_reducible apply go_kseq)
           | (with_reducible apply go_kseq_ret)
           | (with_reducible apply go_kblock)
           | (with_reducible apply go_kblock_ret)
           | ((with_reducible apply end_int); rfl)
  · have h2 : i < l.length := by omega
    exact each_at h2 hC (by simp only [stepE, List.getElem?_eq_getElem h2, *]; simp) h
  · have h2 : i < l.length := by omega
    refine ⟨h2, fun j hj => ?_, entails_eq (k := 0) (ns := []) (ks := [13, 12, 11, 0, 2, 4]) [(0, 0)] rfl (by simp) rfl⟩
    rcases Nat.lt_succ_iff_lt_or_eq.1 hj with h' | rfl
    · exact hC j h'
    · simp only [stepE, List.getElem?_eq_getElem h2, *]; simp
  · refine (firstE_zero fun j hj => hC j (by omega)).symm

def ptOK (p : Pt) : Bool := decide ((-1000000 ≤ p.x ∧ p.x ≤ 1000000) ∧ (-1000000 ≤ p.y ∧ p.y ≤ 1000000))
def lvOK (n : Int) : Bool := decide (-20000 ≤ n ∧ n ≤ 20000)

theorem c142 (p : Pt) : Contract Try.prog 142 [.agg (encPt p)] (.ret (.bool (ptOK p))) := by
  refine contract_of mix Try.func142 rfl rfl (by rw [Try.ntmps142]; exact Nat.le_of_ble_eq_true rfl) ?_; rw [Try.results142, Try.ntmps142]; simp only [argsE, Nat.reduceAdd]
  repeat' first
           | (with_reducible apply go_op)
           | (with_reducible apply go_next)
           | ((with_reducible (show evOp _ _ _ _ _ _)); first
             | (((with_reducible apply go_mv_bool); rfl; rfl))
             | ((with_reducible apply go_as))
             | (((with_reducible apply go_load_own); rfl; rfl; rfl; rfl))
             | (((with_reducible apply go_fieldAddr_own); rfl; rfl; rfl))
             | (((with_reducible apply go_fn_bool); rfl; (exact c108 _ _ _); rfl))
             | (((with_reducible apply go_pick); rfl; rfl; rfl))
             | (((with_reducible apply go_bx_agg); rfl; rfl; (exact Nat.le_of_ble_eq_true rfl); rfl; rfl)))
           | ((with_reducible (show evOps _ _ _ _ _ _)); first
             | (with_reducible apply go_nil)
             | ((with_reducible apply go_run); rfl; rfl)
             | ((with_reducible apply go_pass); rfl; rfl; rfl)
             | (((with_reducible apply go_guard); rfl) <;> (intro h; simp only [h, Bool.not_true, Bool.not_false]; (try with_reducible (refine ⟨rfl, ?_⟩)); try simp only [decide_eq_true_eq, decide_eq_false_iff_not, Bool.not_eq_true', Bool.not_eq_false', Bool.not_true, Bool.not_false] at h; try exact absurd trivial h)))
           | ((with_reducible (show evG _ _ _ _ _)); first
             | (with_reducible apply go_seq)
             | (with_reducible apply go_region)
             | (with_reducible apply go_ret))
           | (with_reducible apply go_kseq)
           | ((with_reducible apply end_bool); rfl)
  all_goals (simp only [ptOK]; simp_all; try omega)
theorem c46 (p : Pt) : Contract Try.prog 46 [.agg (encPt p)] (.ret (.bool (ptOK p))) := by
  refine contract_of mix Try.func46 rfl rfl (by rw [Try.ntmps46]; exact Nat.le_of_ble_eq_true rfl) ?_; rw [Try.results46, Try.ntmps46]; simp only [argsE, Nat.reduceAdd]
  repeat' first
           | (with_reducible apply go_op)
           | (with_reducible apply go_next)
           | ((with_reducible (show evOp _ _ _ _ _ _)); first
             | (((with_reducible apply go_mv_bool); rfl; rfl))
             | ((with_reducible apply go_as))
             | (((with_reducible apply go_load_own); rfl; rfl; rfl; rfl))
             | (((with_reducible apply go_fieldAddr_own); rfl; rfl; rfl))
             | (((with_reducible apply go_fn_bool); rfl; (exact c38 _ _ _); rfl))
             | (((with_reducible apply go_pick); rfl; rfl; rfl))
             | (((with_reducible apply go_bx_agg); rfl; rfl; (exact Nat.le_of_ble_eq_true rfl); rfl; rfl)))
           | ((with_reducible (show evOps _ _ _ _ _ _)); first
             | (with_reducible apply go_nil)
             | ((with_reducible apply go_run); rfl; rfl)
             | ((with_reducible apply go_pass); rfl; rfl; rfl)
             | (((with_reducible apply go_guard); rfl) <;> (intro h; simp only [h, Bool.not_true, Bool.not_false]; (try with_reducible (refine ⟨rfl, ?_⟩)); try simp only [decide_eq_true_eq, decide_eq_false_iff_not, Bool.not_eq_true', Bool.not_eq_false', Bool.not_true, Bool.not_false] at h; try exact absurd trivial h)))
           | ((with_reducible (show evG _ _ _ _ _)); first
             | (with_reducible apply go_seq)
             | (with_reducible apply go_region)
             | (with_reducible apply go_ret))
           | (with_reducible apply go_kseq)
           | ((with_reducible apply end_bool); rfl)
  all_goals (simp only [ptOK]; simp_all; try omega)
theorem c114 (n : Int) : Contract Try.prog 114 [.int .i64 n] (.ret (.bool (lvOK n))) := by
  refine contract_of mix Try.func114 rfl rfl (by rw [Try.ntmps114]; exact Nat.le_of_ble_eq_true rfl) ?_; rw [Try.results114, Try.ntmps114]; simp only [argsE, Nat.reduceAdd]
  repeat' first
           | (with_reducible apply go_op)
           | (with_reducible apply go_next)
           | ((with_reducible (show evOp _ _ _ _ _ _)); first
             | ((with_reducible (show evOp _ (.move _) _ _ _ _)) ; first | ((with_reducible apply go_mv_int); rfl; rfl) | ((with_reducible apply go_mv_bool); rfl; rfl))
             | ((with_reducible apply go_as))
             | (((with_reducible apply go_fn_bool); rfl; (exact c108 _ _ _); rfl)))
           | ((with_reducible (show evOps _ _ _ _ _ _)); first
             | (with_reducible apply go_nil))
           | ((with_reducible (show evG _ _ _ _ _)); first
             | (with_reducible apply go_seq)
             | (with_reducible apply go_region)
             | (with_reducible apply go_ret))
           | (with_reducible apply go_kseq)
           | ((with_reducible apply end_bool); rfl)
  rfl
theorem c48 (n : Int) : Contract Try.prog 48 [.int .i64 n] (.ret (.bool (lvOK n))) := by
  refine contract_of mix Try.func48 rfl rfl (by rw [Try.ntmps48]; exact Nat.le_of_ble_eq_true rfl) ?_; rw [Try.results48, Try.ntmps48]; simp only [argsE, Nat.reduceAdd]
  repeat' first
           | (with_reducible apply go_op)
           | (with_reducible apply go_next)
           | ((with_reducible (show evOp _ _ _ _ _ _)); first
             | ((with_reducible (show evOp _ (.move _) _ _ _ _)) ; first | ((with_reducible apply go_mv_int); rfl; rfl) | ((with_reducible apply go_mv_bool); rfl; rfl))
             | ((with_reducible apply go_as))
             | (((with_reducible apply go_fn_bool); rfl; (exact c38 _ _ _); rfl)))
           | ((with_reducible (show evOps _ _ _ _ _ _)); first
             | (with_reducible apply go_nil))
           | ((with_reducible (show evG _ _ _ _ _)); first
             | (with_reducible apply go_seq)
             | (with_reducible apply go_region)
             | (with_reducible apply go_ret))
           | (with_reducible apply go_kseq)
           | ((with_reducible apply end_bool); rfl)
  rfl
theorem c151 (x : Soil) (s : ByteArray) : Contract Try.prog 151 [.agg (encSoil x), .ptr [.str s]] (.ret (.bool (decide (x.name = s)))) := by
  refine contract_of mix Try.func151 rfl rfl (by rw [Try.ntmps151]; exact Nat.le_of_ble_eq_true rfl) ?_; rw [Try.results151, Try.ntmps151]; simp only [argsE, Nat.reduceAdd]
  repeat' first
           | (with_reducible apply go_op)
           | (with_reducible apply go_next)
           | ((with_reducible (show evOp _ _ _ _ _ _)); first
             | (((with_reducible apply go_mv_bool); rfl; rfl))
             | ((with_reducible apply go_as))
             | ((with_reducible (show evOp _ (.load _ _) _ _ _ _)) ; first | ((with_reducible apply go_load); rfl; rfl; rfl) | ((with_reducible apply go_load_own); rfl; rfl; rfl; rfl))
             | (((with_reducible apply go_fieldAddr_own); rfl; rfl; rfl))
             | (((with_reducible apply go_bin); rfl; rfl))
             | (((with_reducible apply go_bx_agg); rfl; rfl; (exact Nat.le_of_ble_eq_true rfl); rfl; rfl)))
           | ((with_reducible (show evOps _ _ _ _ _ _)); first
             | (with_reducible apply go_nil))
           | ((with_reducible (show evG _ _ _ _ _)); first
             | (with_reducible apply go_seq)
             | (with_reducible apply go_region)
             | (with_reducible apply go_ret))
           | (with_reducible apply go_kseq)
           | ((with_reducible apply end_bool); rfl)
           | (with_reducible rfl)
theorem c102 (l : List Soil) (hl : l.length < 1000000000000) (s : ByteArray) : Contract Try.prog 102 [.sl (l.map encSoil), .str s] (.ret (.int .i64 (ofName l s))) := by
  refine contract_of mix Try.func102 rfl rfl (by rw [Try.ntmps102]; exact Nat.le_of_ble_eq_true rfl) ?_; rw [Try.results102, Try.ntmps102]; simp only [argsE, Nat.reduceAdd]
  repeat' first
           | (with_reducible apply go_op)
           | (with_reducible apply go_next)
           | ((with_reducible (show evOp _ _ _ _ _ _)); first
             | ((with_reducible (show evOp _ (.move _) _ _ _ _)) ; first | ((with_reducible apply go_mv_int); rfl; rfl) | ((with_reducible apply go_mv_sl); rfl; rfl))
             | ((with_reducible apply go_as))
             | (((with_reducible apply go_bx_str); rfl; rfl))
             | (((with_reducible apply go_fn1); rfl; rfl)))
           | ((with_reducible (show evOps _ _ _ _ _ _)); first
             | (with_reducible apply go_nil))
           | ((with_reducible (show evG _ _ _ _ _)); first
             | (with_reducible apply go_seq)
             | (with_reducible apply go_region))
           | (with_reducible apply go_kseq)
  refine go_fn_int (args' := [.sl (l.map encSoil), .clo (.func 151) [] [.ptr [.str s]]]) rfl (c150 l hl 151 _ (fun _ _ => rfl) rfl (fun x => decide (x.name = s)) fun x _ => c151 x s) rfl ?_
  repeat' first
           | (with_reducible apply go_op)
           | (with_reducible apply go_next)
           | ((with_reducible (show evOp _ _ _ _ _ _)); first
             | (((with_reducible apply go_mv_int); rfl; rfl))
             | ((with_reducible apply go_as)))
           | ((with_reducible (show evOps _ _ _ _ _ _)); first
             | (with_reducible apply go_nil))
           | ((with_reducible (show evG _ _ _ _ _)); first
             | (with_reducible apply go_ret))
           | (with_reducible apply go_kseq)
           | ((with_reducible apply end_int); rfl)
  rfl
end Go.Pv.Soil

open Go Go.Proofs Go.Pv
set_option maxHeartbeats 1000000
set_option maxRecDepth 100000
set_option linter.unusedSimpArgs false
set_option linter.unusedVariables false
namespace Go.Pv.Soil

structure Ground where
  soils : List Soil
  borings : List Boring
def encGround (g : Ground) : List D := [.sl (g.soils.map encSoil), .sl (g.borings.map encBor)]

def layE (l : List Soil) (ls : List Layer) (i : Nat) : Int :=
  match ls[i]? with
  | none => 0
  | some x => if lvOK x.top = false then 2 else if 0 < i ∧ ((ls[i - 1]?).map (·.top)).getD 0 ≤ x.top then 9 else if ofName l x.soil < 0 then 6 else 0

def borE (l : List Soil) (b : Boring) : Int :=
  if ptOK ⟨b.x, b.y⟩ = false then 2 else if b.layers.length = 0 then 10 else if 12 < b.layers.length then 8 else firstE b.layers.length (layE l b.layers)

theorem layE_is {l : List Soil} {ls : List Layer} {i : Nat} (hi : i < ls.length) : layE l ls i = if lvOK ls[i].top = false then 2 else if 0 < i ∧ ((ls[i - 1]?).map (·.top)).getD 0 ≤ ls[i].top then 9 else if ofName l ls[i].soil < 0 then 6 else 0 := by
  simp only [layE, List.getElem?_eq_getElem hi]

theorem layE_2 {l : List Soil} {ls : List Layer} {i : Nat} (hi : i < ls.length) (h : lvOK ls[i].top = false) : layE l ls i = 2 := by rw [layE_is hi, if_pos h]
theorem layE_9 {l : List Soil} {ls : List Layer} {i : Nat} (hi : i < ls.length) (h1 : lvOK ls[i].top = true) (h2 : 0 < i) (h3 : (ls[i - 1]'(by omega)).top ≤ ls[i].top) : layE l ls i = 9 := by
  rw [layE_is hi, if_neg (by simp [h1]), if_pos ⟨h2, by rw [List.getElem?_eq_getElem (by omega)]; exact h3⟩]
theorem layE_6 {l : List Soil} {ls : List Layer} {i : Nat} (hi : i < ls.length) (h1 : lvOK ls[i].top = true) (h2 : i = 0 ∨ ∃ h : i - 1 < ls.length, ¬ ls[i - 1].top ≤ ls[i].top) (h : ofName l ls[i].soil < 0) : layE l ls i = 6 := by
  rw [layE_is hi, if_neg (by simp [h1]), if_neg, if_pos h]
  rintro ⟨h3, h4⟩
  rcases h2 with h2 | ⟨h5, h2⟩
  · omega
  · rw [List.getElem?_eq_getElem h5] at h4; exact h2 h4
theorem layE_0 {l : List Soil} {ls : List Layer} {i : Nat} (hi : i < ls.length) (h1 : lvOK ls[i].top = true) (h2 : i = 0 ∨ ∃ h : i - 1 < ls.length, ¬ ls[i - 1].top ≤ ls[i].top) (h : ¬ ofName l ls[i].soil < 0) : layE l ls i = 0 := by
  rw [layE_is hi, if_neg (by simp [h1]), if_neg, if_neg h]
  rintro ⟨h3, h4⟩
  rcases h2 with h2 | ⟨h5, h2⟩
  · omega
  · rw [List.getElem?_eq_getElem h5] at h4; exact h2 h4

theorem lay_at {l : List Soil} {ls : List Layer} {i : Nat} {e : Int} (hi : i < ls.length) (hC : ∀ j, j < i → layE l ls j = 0) (h : layE l ls i = e) (he : e ≠ 0) : e = firstE ls.length (layE l ls) := by
  subst h
  exact (firstE_at hi hC he).symm
theorem lay_step {l : List Soil} {ls : List Layer} {i : Nat} (hC : ∀ j, j < i → layE l ls j = 0) (h : layE l ls i = 0) : ∀ j, j < i + 1 → layE l ls j = 0 := fun j hj => by
  rcases Nat.lt_succ_iff_lt_or_eq.1 hj with h' | rfl
  · exact hC j h'
  · exact h

theorem c88 (g : Ground) (b : Boring) (hl : g.soils.length < 1000000000000) : Contract Try.prog 88 [.agg (encGround g), .agg (encBor b)] (.ret (.int .i64 (borE g.soils b))) := by
  refine contract_of mix Try.func88 rfl rfl (by rw [Try.ntmps88]; exact Nat.le_of_ble_eq_true rfl) ?_; rw [Try.results88, Try.ntmps88]; simp only [argsE, Nat.reduceAdd]
  repeat' first
           | (with_reducible apply go_op)
           | (with_reducible apply go_next)
           | ((with_reducible (show evOp _ _ _ _ _ _)); first
             | ((with_reducible (show evOp _ (.move _) _ _ _ _)) ; first | ((with_reducible apply go_mv_int); rfl; rfl) | ((with_reducible apply go_mv_bool); rfl; rfl))
             | ((with_reducible apply go_as))
             | (((with_reducible apply go_load_own); rfl; rfl; rfl; rfl))
             | (((with_reducible apply go_fieldAddr_own); rfl; rfl; rfl))
             | (((with_reducible apply go_cmp); rfl; rfl; rfl; rfl))
             | ((with_reducible (show evOp _ (.call _) _ _ _ _)) ; first | ((with_reducible apply go_len); rfl; rfl) | ((with_reducible apply go_fn_bool); rfl; (exact c142 ⟨b.x, b.y⟩); rfl))
             | (((with_reducible apply go_not); rfl; rfl))
             | (((with_reducible apply go_build); rfl; rfl))
             | (((with_reducible apply go_bx_agg); rfl; rfl; (exact Nat.le_of_ble_eq_true rfl); rfl; rfl)))
           | ((with_reducible (show evOps _ _ _ _ _ _)); first
             | (with_reducible apply go_nil))
           | ((with_reducible (show evG _ _ _ _ _)); first
             | (with_reducible apply go_seq)
             | (with_reducible apply go_region)
             | (((with_reducible apply go_cond); rfl) <;> (intro h; simp only [h]; try simp only [decide_eq_true_eq, decide_eq_false_iff_not, Bool.not_eq_true', Bool.not_eq_false', Bool.not_true, Bool.not_false] at h; try exact absurd trivial h))
             | (with_reducible apply go_ret)
             | (with_reducible apply go_skipc)
             | (with_reducible apply go_block))
           | (with_reducible apply go_kseq)
           | (with_reducible apply go_kseq_ret)
           | (with_reducible apply go_kblock)
           | (with_reducible apply go_kblock_ret)
           | ((with_reducible apply end_int); rfl)
  · simp only [borE]; rw [if_pos h]
  · rename_i h1
    simp only [borE]; rw [if_neg (by simp [h1]), if_pos (by omega)]
  · rename_i h1 h2
    simp only [borE]; rw [if_neg (by simp [h1]), if_neg (by omega), if_pos (by omega)]
  rename_i h1 h2
  have hb : borE g.soils b = firstE b.layers.length (layE g.soils b.layers) := by
    simp only [borE]; rw [if_neg (by simp [h1]), if_neg (by omega), if_neg (by omega)]
  rw [hb]
  refine go_count b.layers.length (fun i => ⟨[(28, .int .i64 i), (27, .int .i64 b.layers.length), (26, .sl (b.layers.map encLayer)), (3, .op 32 0 0), (2, .op 0 0 0)], [(32, ⟨4, true, [encBor b]⟩), (0, ⟨2, true, [encGround g]⟩)], 64, 62⟩) (fun i => ∀ j, j < i → layE g.soils b.layers j = 0)
    (entails_eq (k := 0) (ns := []) (ks := [28, 27, 26, 3, 2]) [(32, 32), (0, 0)] rfl (by simp) rfl) (by omega) ?_
  intro i hi hC
  repeat' first
           | (with_reducible apply go_op)
           | (with_reducible apply go_next)
           | ((with_reducible (show evOp _ _ _ _ _ _)); first
             | ((with_reducible (show evOp _ (.move _) _ _ _ _)) ; first | ((with_reducible apply go_mv_int); rfl; rfl) | ((with_reducible apply go_mv_bool); rfl; rfl))
             | ((with_reducible apply go_as))
             | ((with_reducible (show evOp _ (.load _ _) _ _ _ _)) ; first | ((with_reducible apply go_load); rfl; rfl; rfl) | ((with_reducible apply go_load_own); rfl; rfl; rfl; rfl))
             | ((with_reducible (show evOp _ (.fieldAddr _ _ _) _ _ _ _)) ; first | ((with_reducible apply go_fieldAddr); rfl; rfl) | ((with_reducible apply go_fieldAddr_own); rfl; rfl; rfl))
             | (((with_reducible apply go_index); rfl; rfl; (intro; rfl); rfl; omega; intro hlt))
             | ((with_reducible (show evOp _ (.binOp _ _ _ _ _) _ _ _ _)) ; first | ((with_reducible apply go_cmp); rfl; rfl; rfl; rfl) | ((with_reducible apply go_add); rfl; rfl; rfl; omega) | ((with_reducible apply go_sub); rfl; rfl; rfl; omega))
             | ((with_reducible (show evOp _ (.call _) _ _ _ _)) ; first | ((with_reducible apply go_fn_bool); rfl; (exact c114 _); rfl) | ((with_reducible apply go_fn_int); rfl; (exact c102 g.soils hl _); rfl))
             | (((with_reducible apply go_st_agg); rfl; rfl; rfl; rfl; rfl; rfl; rfl))
             | (((with_reducible apply go_not); rfl; rfl))
             | (((with_reducible apply go_pick); rfl; rfl; rfl))
             | (((with_reducible apply go_alloc); rfl; rfl; rfl)))
           | ((with_reducible (show evOps _ _ _ _ _ _)); first
             | (with_reducible apply go_nil)
             | ((with_reducible apply go_run); rfl; rfl)
             | ((with_reducible apply go_pass); rfl; rfl; rfl)
             | (((with_reducible apply go_guard); rfl) <;> (intro h; simp only [h, Bool.not_true, Bool.not_false]; (try with_reducible (refine ⟨rfl, ?_⟩)); try simp only [decide_eq_true_eq, decide_eq_false_iff_not, Bool.not_eq_true', Bool.not_eq_false', Bool.not_true, Bool.not_false] at h; try exact absurd trivial h))
             | ((with_reducible apply go_pre); rfl)
             | (with_reducible apply go_pre_nil)
             | ((with_reducible apply go_suf); rfl)
             | (with_reducible apply go_suf_nil))
           | ((with_reducible (show evG _ _ _ _ _)); first
             | (with_reducible apply go_seq)
             | (with_reducible apply go_region)
             | ((with_reducible apply go_cond_f); rfl; rfl)
             | (((with_reducible apply go_cond); rfl) <;> (intro h; simp only [h]; try simp only [decide_eq_true_eq, decide_eq_false_iff_not, Bool.not_eq_true', Bool.not_eq_false', Bool.not_true, Bool.not_false] at h; try exact absurd trivial h))
             | ((with_reducible apply go_order); kernel_rfl; rfl)
             | (with_reducible apply go_ret)
             | (with_reducible apply go_skipc)
             | (with_reducible apply go_block)
             | (with_reducible apply go_exit))
           | (with_reducible apply go_kseq)
           | (with_reducible apply go_ksuf)
           | (with_reducible apply go_kseq_ret)
           | (with_reducible apply go_kblock)
           | (with_reducible apply go_kblock_ret)
           | (with_reducible apply go_kblock_exit)
           | (with_reducible apply go_kseq_exit)
           | ((with_reducible apply end_int); rfl)
  all_goals try simp only [Int.toNat_natCast, show ((i : Int) - 1).toNat = i - 1 by omega] at *
  all_goals first
    | exact (firstE_zero fun j hj => hC j (by omega)).symm
    | (have h3 : i < b.layers.length := by omega
       first
         | exact lay_at h3 hC (layE_2 h3 (by assumption)) (by decide)
         | exact lay_at h3 hC (layE_9 h3 (by assumption) (by omega) (by assumption)) (by decide)
         | exact lay_at h3 hC (layE_6 h3 (by assumption) (.inl (by omega)) (by assumption)) (by decide)
         | exact lay_at h3 hC (layE_6 h3 (by assumption) (.inr ⟨by omega, by assumption⟩) (by assumption)) (by decide)
         | exact ⟨h3, lay_step hC (layE_0 h3 (by assumption) (.inl (by omega)) (by assumption)), entails_eq (k := 0) (ns := []) (ks := [28, 27, 26, 3, 2]) [(32, 32), (0, 0)] rfl (by simp) rfl⟩
         | exact ⟨h3, lay_step hC (layE_0 h3 (by assumption) (.inr ⟨by omega, by assumption⟩) (by assumption)), entails_eq (k := 0) (ns := []) (ks := [28, 27, 26, 3, 2]) [(32, 32), (0, 0)] rfl (by simp) rfl⟩)
end Go.Pv.Soil

open Go Go.Proofs Go.Pv
set_option maxHeartbeats 1000000
set_option maxRecDepth 100000
set_option linter.unusedSimpArgs false
set_option linter.unusedVariables false
namespace Go.Pv.Soil

theorem c89 (l : List Soil) (b : Boring) (hl : l.length < 1000000000000) : Contract Try.prog 89 [.sl (l.map encSoil), .agg (encBor b)] (.ret (.int .i64 (borE l b))) := by
  refine contract_of mix Try.func89 rfl rfl (by rw [Try.ntmps89]; exact Nat.le_of_ble_eq_true rfl) ?_; rw [Try.results89, Try.ntmps89]; simp only [argsE, Nat.reduceAdd]
  repeat' first
           | (with_reducible apply go_op)
           | (with_reducible apply go_next)
           | ((with_reducible (show evOp _ _ _ _ _ _)); first
             | (((with_reducible apply go_mv_int); rfl; rfl))
             | ((with_reducible apply go_as))
             | (((with_reducible apply go_load_own); rfl; rfl; rfl; rfl))
             | (((with_reducible apply go_fieldAddr_own); rfl; rfl; rfl))
             | (((with_reducible apply go_cmp); rfl; rfl; rfl; rfl))
             | ((with_reducible (show evOp _ (.call _) _ _ _ _)) ; first | ((with_reducible apply go_len); rfl; rfl) | ((with_reducible apply go_fn_bool); rfl; (exact c46 ⟨b.x, b.y⟩); rfl))
             | (((with_reducible apply go_not); rfl; rfl))
             | (((with_reducible apply go_build); rfl; rfl))
             | (((with_reducible apply go_bx_agg); rfl; rfl; (exact Nat.le_of_ble_eq_true rfl); rfl; rfl)))
           | ((with_reducible (show evOps _ _ _ _ _ _)); first
             | (with_reducible apply go_nil))
           | ((with_reducible (show evG _ _ _ _ _)); first
             | (with_reducible apply go_seq)
             | (with_reducible apply go_region)
             | (((with_reducible apply go_cond); rfl) <;> (intro h; simp only [h]; try simp only [decide_eq_true_eq, decide_eq_false_iff_not, Bool.not_eq_true', Bool.not_eq_false', Bool.not_true, Bool.not_false] at h; try exact absurd trivial h))
             | (with_reducible apply go_ret)
             | (with_reducible apply go_skipc)
             | (with_reducible apply go_block))
           | (with_reducible apply go_kseq)
           | (with_reducible apply go_kseq_ret)
           | ((with_reducible apply end_int); rfl)
  · simp only [borE]; rw [if_pos h]
  · rename_i h1
    simp only [borE]; rw [if_neg (by simp [h1]), if_pos (by omega)]
  · rename_i h1 h2
    simp only [borE]; rw [if_neg (by simp [h1]), if_neg (by omega), if_pos (by omega)]
  rename_i h1 h2
  have hb : borE l b = firstE b.layers.length (layE l b.layers) := by
    simp only [borE]; rw [if_neg (by simp [h1]), if_neg (by omega), if_neg (by omega)]
  rw [hb]
  refine go_count b.layers.length (fun i => ⟨[(5, .int .i64 i), (0, .sl (l.map encSoil)), (3, .op 0 0 0)], [(0, ⟨4, true, [encBor b]⟩)], 32, 63⟩) (fun i => ∀ j, j < i → layE l b.layers j = 0)
    (entails_eq (k := 0) (ns := []) (ks := [5, 0, 3]) [(0, 0)] rfl (by simp) rfl) (by omega) ?_
  intro i hi hC
  repeat' first
           | (with_reducible apply go_op)
           | (with_reducible apply go_next)
           | ((with_reducible (show evOp _ _ _ _ _ _)); first
             | ((with_reducible (show evOp _ (.move _) _ _ _ _)) ; first | ((with_reducible apply go_mv_int); rfl; rfl) | ((with_reducible apply go_mv_bool); rfl; rfl) | ((with_reducible apply go_mv_sl); rfl; rfl))
             | ((with_reducible apply go_as))
             | ((with_reducible (show evOp _ (.load _ _) _ _ _ _)) ; first | ((with_reducible apply go_load); rfl; rfl; rfl) | ((with_reducible apply go_load_own); rfl; rfl; rfl; rfl))
             | ((with_reducible (show evOp _ (.fieldAddr _ _ _) _ _ _ _)) ; first | ((with_reducible apply go_fieldAddr); rfl; rfl) | ((with_reducible apply go_fieldAddr_own); rfl; rfl; rfl))
             | (((with_reducible apply go_index); rfl; rfl; (intro; rfl); rfl; omega; intro hlt))
             | ((with_reducible (show evOp _ (.binOp _ _ _ _ _) _ _ _ _)) ; first | ((with_reducible apply go_cmp); rfl; rfl; rfl; rfl) | ((with_reducible apply go_add); rfl; rfl; rfl; omega) | ((with_reducible apply go_sub); rfl; rfl; rfl; omega))
             | ((with_reducible (show evOp _ (.call _) _ _ _ _)) ; first | ((with_reducible apply go_len); rfl; rfl) | ((with_reducible apply go_fn_bool); rfl; (exact c48 _); rfl) | ((with_reducible apply go_fn_int); rfl; (exact c84 l hl _); rfl))
             | (((with_reducible apply go_not); rfl; rfl))
             | (((with_reducible apply go_pick); rfl; rfl; rfl)))
           | ((with_reducible (show evOps _ _ _ _ _ _)); first
             | (with_reducible apply go_nil)
             | ((with_reducible apply go_run); rfl; rfl)
             | ((with_reducible apply go_pass); rfl; rfl; rfl)
             | (((with_reducible apply go_guard); rfl) <;> (intro h; simp only [h, Bool.not_true, Bool.not_false]; (try with_reducible (refine ⟨rfl, ?_⟩)); try simp only [decide_eq_true_eq, decide_eq_false_iff_not, Bool.not_eq_true', Bool.not_eq_false', Bool.not_true, Bool.not_false] at h; try exact absurd trivial h))
             | ((with_reducible apply go_pre); rfl)
             | (with_reducible apply go_pre_nil)
             | ((with_reducible apply go_suf); rfl)
             | (with_reducible apply go_suf_nil))
           | ((with_reducible (show evG _ _ _ _ _)); first
             | (with_reducible apply go_seq)
             | (with_reducible apply go_region)
             | ((with_reducible apply go_cond_f); rfl; rfl)
             | (((with_reducible apply go_cond); rfl) <;> (intro h; simp only [h]; try simp only [decide_eq_true_eq, decide_eq_false_iff_not, Bool.not_eq_true', Bool.not_eq_false', Bool.not_true, Bool.not_false] at h; try exact absurd trivial h))
             | ((with_reducible apply go_order); kernel_rfl; rfl)
             | (with_reducible apply go_ret)
             | (with_reducible apply go_skipc)
             | (with_reducible apply go_block)
             | (with_reducible apply go_exit))
           | (with_reducible apply go_kseq)
           | (with_reducible apply go_ksuf)
           | (with_reducible apply go_kseq_ret)
           | (with_reducible apply go_kblock)
           | (with_reducible apply go_kblock_ret)
           | (with_reducible apply go_kblock_exit)
           | (with_reducible apply go_kseq_exit)
           | ((with_reducible apply end_int); rfl)
  all_goals try simp only [Int.toNat_natCast, show ((i : Int) - 1).toNat = i - 1 by omega] at *
  all_goals first
    | exact (firstE_zero fun j hj => hC j (by omega)).symm
    | (have h3 : i < b.layers.length := by omega
       first
         | exact lay_at h3 hC (layE_2 h3 (by assumption)) (by decide)
         | exact lay_at h3 hC (layE_9 h3 (by assumption) (by omega) (by assumption)) (by decide)
         | exact lay_at h3 hC (layE_6 h3 (by assumption) (.inl (by omega)) (by assumption)) (by decide)
         | exact lay_at h3 hC (layE_6 h3 (by assumption) (.inr ⟨by omega, by assumption⟩) (by assumption)) (by decide)
         | exact ⟨h3, lay_step hC (layE_0 h3 (by assumption) (.inl (by omega)) (by assumption)), entails_eq (k := 0) (ns := []) (ks := [5, 0, 3]) [(0, 0)] rfl (by simp) rfl⟩
         | exact ⟨h3, lay_step hC (layE_0 h3 (by assumption) (.inr ⟨by omega, by assumption⟩) (by assumption)), entails_eq (k := 0) (ns := []) (ks := [5, 0, 3]) [(0, 0)] rfl (by simp) rfl⟩)
end Go.Pv.Soil

open Go Go.Proofs Go.Pv
set_option maxHeartbeats 1000000
set_option maxRecDepth 100000
set_option linter.unusedSimpArgs false
set_option linter.unusedVariables false
namespace Go.Pv.Soil

theorem stabG (gr : Ground) : StabF [.agg (encGround gr)] := fun hp m ds ds' h => by
  show (pur hp (m + 16) (.agg (encGround gr))).bind _ = _
  have : pur hp (m + 16) (.agg (encGround gr)) = some (.agg (encGround gr)) := rfl
  rw [this]
  simp only [Option.bind_some]
  show (purL hp (m + 16) ([] ++ ds)).map _ = _
  rw [List.nil_append, h]
  rfl

theorem c86g (l : List Boring) (hl : l.length < 1000000000000) (g : FuncId) (gr : Ground) (nm : Boring → ByteArray) (er : Boring → Int) (hn : ∀ x, Contract Try.prog g [.agg (encBor x)] (.ret (.str (nm x)))) (he : ∀ x, Contract Try.prog 88 [.agg (encGround gr), .agg (encBor x)] (.ret (.int .i64 (er x)))) :
    Contract Try.prog 86 [.sl (l.map encBor), .clo (.func g) [] [], .clo (.func 88) [.agg (encGround gr)] []] (.ret (.int .i64 (eachE nm er l))) := by
  refine contract_of mix Try.func86 rfl rfl (by rw [Try.ntmps86]; exact Nat.le_of_ble_eq_true rfl) ?_; rw [Try.results86, Try.ntmps86]; simp only [argsE, Nat.reduceAdd]
  repeat' first
           | (with_reducible apply go_op)
           | (with_reducible apply go_next)
           | ((with_reducible (show evOp _ _ _ _ _ _)); first
             | ((with_reducible (show evOp _ (.move _) _ _ _ _)) ; first | ((with_reducible apply go_mv_int); rfl; rfl) | ((with_reducible apply go_mv_sl); rfl; rfl))
             | ((with_reducible apply go_as))
             | (((with_reducible apply go_len); rfl; rfl))
             | (((with_reducible apply go_bx_clo); rfl; rfl)))
           | ((with_reducible (show evOps _ _ _ _ _ _)); first
             | (with_reducible apply go_nil))
           | ((with_reducible (show evG _ _ _ _ _)); first
             | (with_reducible apply go_seq)
             | (with_reducible apply go_region)
             | (with_reducible apply go_block))
           | (with_reducible apply go_kseq)
  refine go_count l.length (fun i => ⟨[(13, .int .i64 i), (12, .int .i64 l.length), (11, .sl (l.map encBor)), (0, .sl (l.map encBor)), (2, .clo (.func 88) [.agg (encGround gr)] []), (4, .op 0 0 0)], [(0, ⟨1, false, [[.clo (.func g) [] []]]⟩)], 32, 36⟩) (fun i => ∀ j, j < i → stepE nm er l j = 0) (entails_eq (k := 0) (ns := []) (ks := [13, 12, 11, 0, 2, 4]) [(0, 0)] rfl (by simp) rfl) (by omega) ?_
  intro i hi hC
  repeat' first
           | (with_reducible apply go_op)
           | (with_reducible apply go_next)
           | ((with_reducible (show evOp _ _ _ _ _ _)); first
             | (((with_reducible apply go_mv_int); rfl; rfl))
             | ((with_reducible apply go_as))
             | ((with_reducible (show evOp _ (.load _ _) _ _ _ _)) ; first | ((with_reducible apply go_load); rfl; rfl; rfl) | ((with_reducible apply go_load_own); rfl; rfl; rfl; rfl))
             | (((with_reducible apply go_index); rfl; rfl; (intro; rfl); rfl; omega; intro hlt))
             | (((with_reducible apply go_cmp); rfl; rfl; rfl; rfl))
             | (((with_reducible apply go_st_agg); rfl; rfl; rfl; rfl; rfl; rfl; rfl))
             | (((with_reducible apply go_alloc); rfl; rfl; rfl)))
           | ((with_reducible (show evOps _ _ _ _ _ _)); first
             | (with_reducible apply go_nil))
           | ((with_reducible (show evG _ _ _ _ _)); first
             | (with_reducible apply go_seq)
             | (with_reducible apply go_region)
             | (((with_reducible apply go_cond); rfl) <;> (intro h; simp only [h]; try simp only [decide_eq_true_eq, decide_eq_false_iff_not, Bool.not_eq_true', Bool.not_eq_false', Bool.not_true, Bool.not_false] at h; try exact absurd trivial h))
             | (with_reducible apply go_ret)
             | (with_reducible apply go_skipc)
             | (with_reducible apply go_block)
             | (with_reducible apply go_exit))
           | (with_reducible apply go_kseq)
           | (with_reducible apply go_kblock_exit)
           | (with_reducible apply go_kseq_exit)
           | ((with_reducible apply end_int); rfl)
  refine go_clo_str (d1 := .agg (encBor l[i])) rfl rfl (fun _ _ => rfl) (hn _) rfl ?_
  repeat' first
           | (with_reducible apply go_op)
           | (with_reducible apply go_next)
           | ((with_reducible (show evOp _ _ _ _ _ _)); first
             | (((with_reducible apply go_load_own); rfl; rfl; rfl; rfl))
             | (((with_reducible apply go_st_str); rfl; rfl; rfl))
             | (((with_reducible apply go_alloc); rfl; rfl; rfl)))
           | ((with_reducible (show evOps _ _ _ _ _ _)); first
             | (with_reducible apply go_nil))
           | ((with_reducible (show evG _ _ _ _ _)); first
             | (with_reducible apply go_seq)
             | (with_reducible apply go_region))
           | (with_reducible apply go_kseq)
  refine go_fn_bool (args' := [.str (nm l[i])]) rfl (c137 _) rfl ?_
  repeat' first
           | (with_reducible apply go_op)
           | (with_reducible apply go_next)
           | ((with_reducible (show evOp _ _ _ _ _ _)); first
             | ((with_reducible (show evOp _ (.move _) _ _ _ _)) ; first | ((with_reducible apply go_mv_int); rfl; rfl) | ((with_reducible apply go_mv_sl); rfl; rfl))
             | ((with_reducible apply go_as))
             | (((with_reducible apply go_take_sl); rfl; rfl; (intro; rfl); rfl; omega))
             | (((with_reducible apply go_not); rfl; rfl))
             | (((with_reducible apply go_fn2); rfl; rfl; rfl)))
           | ((with_reducible (show evOps _ _ _ _ _ _)); first
             | (with_reducible apply go_nil))
           | ((with_reducible (show evG _ _ _ _ _)); first
             | (with_reducible apply go_seq)
             | (with_reducible apply go_region)
             | (((with_reducible apply go_cond); rfl) <;> (intro h; simp only [h]; try simp only [decide_eq_true_eq, decide_eq_false_iff_not, Bool.not_eq_true', Bool.not_eq_false', Bool.not_true, Bool.not_false] at h; try exact absurd trivial h))
             | (with_reducible apply go_ret)
             | (with_reducible apply go_skipc))
           | (with_reducible apply go_kseq)
           | (with_reducible apply go_kseq_ret)
           | (with_reducible apply go_kblock_ret)
           | ((with_reducible apply end_int); rfl)
  · have h2 : i < l.length := by omega
    exact each_at h2 hC (by simp [stepE, h2, h]) (by decide)
  refine go_fn_bool (args' := [.sl ((l.take i).map encBor), .clo (.func 141) [] [.ptr [.clo (.func g) [] []], .ptr [.str (nm l[i])]]]) rfl (c140 (l.take i) (by simp; omega) 141 _ (fun _ _ => rfl) rfl (fun y => decide (nm y = nm l[i])) fun y _ => c141 y _ _ g (hn y)) rfl ?_
  repeat' first
           | (with_reducible apply go_op)
           | (with_reducible apply go_next)
           | ((with_reducible (show evOp _ _ _ _ _ _)); first
             | ((with_reducible (show evOp _ (.move _) _ _ _ _)) ; first | ((with_reducible apply go_mv_int); rfl; rfl) | ((with_reducible apply go_mv_clo); rfl; rfl))
             | ((with_reducible apply go_as))
             | (((with_reducible apply go_load_own); rfl; rfl; rfl; rfl)))
           | ((with_reducible (show evOps _ _ _ _ _ _)); first
             | (with_reducible apply go_nil))
           | ((with_reducible (show evG _ _ _ _ _)); first
             | (with_reducible apply go_seq)
             | (with_reducible apply go_region)
             | (((with_reducible apply go_cond); rfl) <;> (intro h; simp only [h]; try simp only [decide_eq_true_eq, decide_eq_false_iff_not, Bool.not_eq_true', Bool.not_eq_false', Bool.not_true, Bool.not_false] at h; try exact absurd trivial h))
             | (with_reducible apply go_ret)
             | (with_reducible apply go_skipc))
           | (with_reducible apply go_kseq)
           | (with_reducible apply go_kseq_ret)
           | (with_reducible apply go_kblock_ret)
           | ((with_reducible apply end_int); rfl)
  · rename_i h1 _
    have h2 : i < l.length := by omega
    exact each_at h2 hC (by simp only [stepE, List.getElem?_eq_getElem h2, h, *]; simp) (by decide)
  refine go_call_bound (xs := [.agg (encGround gr)]) (d1 := .agg (encBor l[i])) (Nat.le_of_ble_eq_true rfl) rfl (fun _ => rfl) (stabG gr) (he _) rfl (Nat.le_of_ble_eq_true rfl) rfl ?_
  repeat' first
           | (with_reducible apply go_op)
           | (with_reducible apply go_next)
           | ((with_reducible (show evOp _ _ _ _ _ _)); first
             | (((with_reducible apply go_mv_int); rfl; rfl))
             | ((with_reducible apply go_as))
             | ((with_reducible (show evOp _ (.binOp _ _ _ _ _) _ _ _ _)) ; first | ((with_reducible apply go_cmp); rfl; rfl; rfl; rfl) | ((with_reducible apply go_add); rfl; rfl; rfl; omega)))
           | ((with_reducible (show evOps _ _ _ _ _ _)); first
             | (with_reducible apply go_nil))
           | ((with_reducible (show evG _ _ _ _ _)); first
             | (with_reducible apply go_seq)
             | (with_reducible apply go_region)
             | (((with_reducible apply go_cond); rfl) <;> (intro h; simp only [h]; try simp only [decide_eq_true_eq, decide_eq_false_iff_not, Bool.not_eq_true', Bool.not_eq_false', Bool.not_true, Bool.not_false] at h; try exact absurd trivial h))
             | (with_reducible apply go_ret)
             | (with_reducible apply go_skipc))
           | (with_reducible apply go_kseq)
           | (with_reducible apply go_kseq_ret)
           | (with_reducible apply go_kblock)
           | (with_reducible apply go_kblock_ret)
           | ((with_reducible apply end_int); rfl)
  · have h2 : i < l.length := by omega
    exact each_at h2 hC (by simp only [stepE, List.getElem?_eq_getElem h2, *]; simp) h
  · have h2 : i < l.length := by omega
    refine ⟨h2, fun j hj => ?_, entails_eq (k := 0) (ns := []) (ks := [13, 12, 11, 0, 2, 4]) [(0, 0)] rfl (by simp) rfl⟩
    rcases Nat.lt_succ_iff_lt_or_eq.1 hj with h' | rfl
    · exact hC j h'
    · simp only [stepE, List.getElem?_eq_getElem h2, *]; simp
  · refine (firstE_zero fun j hj => hC j (by omega)).symm

end Go.Pv.Soil

open Go Go.Proofs Go.Pv
set_option maxHeartbeats 1000000
set_option maxRecDepth 100000
set_option linter.unusedSimpArgs false
set_option linter.unusedVariables false
namespace Go.Pv.Soil

theorem c87' (x : Boring) : Contract Try.prog 87 [.agg (encBor x)] (.ret (.str x.name)) := c87 x

def groundE (g : Ground) : Int := if soilsE g.soils ≠ 0 then soilsE g.soils else if g.borings.length = 0 then 10 else if 20 < g.borings.length then 8 else eachE (·.name) (borE g.soils) g.borings

theorem c22 (g : Ground) (hl : g.soils.length < 1000000000000) (hb : g.borings.length < 1000000000000) : Contract Try.prog 22 [.agg (encGround g)] (.ret (.int .i64 (groundE g))) := by
  refine contract_of mix Try.func22 rfl rfl (by rw [Try.ntmps22]; exact Nat.le_of_ble_eq_true rfl) ?_; rw [Try.results22, Try.ntmps22]; simp only [argsE, Nat.reduceAdd]
  repeat' first
           | (with_reducible apply go_op)
           | (with_reducible apply go_next)
           | ((with_reducible (show evOp _ _ _ _ _ _)); first
             | (((with_reducible apply go_mv_int); rfl; rfl))
             | ((with_reducible apply go_as))
             | (((with_reducible apply go_load_own); rfl; rfl; rfl; rfl))
             | (((with_reducible apply go_fieldAddr_own); rfl; rfl; rfl))
             | (((with_reducible apply go_cmp); rfl; rfl; rfl; rfl))
             | ((with_reducible (show evOp _ (.call _) _ _ _ _)) ; first | ((with_reducible apply go_len); rfl; rfl) | ((with_reducible apply go_fn_int); rfl; (exact c20 g.soils hl); rfl))
             | (((with_reducible apply go_build); rfl; rfl))
             | (((with_reducible apply go_bx_agg); rfl; rfl; (exact Nat.le_of_ble_eq_true rfl); rfl; rfl)))
           | ((with_reducible (show evOps _ _ _ _ _ _)); first
             | (with_reducible apply go_nil))
           | ((with_reducible (show evG _ _ _ _ _)); first
             | (with_reducible apply go_seq)
             | (with_reducible apply go_region)
             | (((with_reducible apply go_cond); rfl) <;> (intro h; simp only [h]; try simp only [decide_eq_true_eq, decide_eq_false_iff_not, Bool.not_eq_true', Bool.not_eq_false', Bool.not_true, Bool.not_false] at h; try exact absurd trivial h))
             | (with_reducible apply go_ret)
             | (with_reducible apply go_skipc))
           | (with_reducible apply go_kseq)
           | (with_reducible apply go_kseq_ret)
           | ((with_reducible apply end_int); rfl)
  · simp only [groundE]; rw [if_pos h]
  · simp only [groundE]; rw [if_neg (by simp [*]), if_pos (by omega)]
  · simp only [groundE]; rw [if_neg (by simp [*]), if_neg (by omega), if_pos (by omega)]
  refine go_fn (us := [.agg (encGround g)]) (bs := []) rfl rfl rfl ?_
  repeat' first
           | (with_reducible apply go_op)
           | (with_reducible apply go_next)
  refine go_fn_int (args' := [.sl (g.borings.map encBor), .clo (.func 87) [] [], .clo (.func 88) [.agg (encGround g)] []]) rfl (c86g g.borings hb 87 g (·.name) (borE g.soils) c87 fun x => c88 g x hl) rfl ?_
  repeat' first
           | (with_reducible apply go_op)
           | (with_reducible apply go_next)
           | ((with_reducible (show evOp _ _ _ _ _ _)); first
             | (((with_reducible apply go_mv_int); rfl; rfl))
             | ((with_reducible apply go_as)))
           | ((with_reducible (show evOps _ _ _ _ _ _)); first
             | (with_reducible apply go_nil))
           | ((with_reducible (show evG _ _ _ _ _)); first
             | (with_reducible apply go_ret))
           | (with_reducible apply go_kseq)
           | ((with_reducible apply end_int); rfl)
  simp only [groundE]; rw [if_neg (by simp [*]), if_neg (by omega), if_neg (by omega)]
end Go.Pv.Soil

open Go Go.Proofs Go.Pv
set_option maxHeartbeats 1000000
set_option maxRecDepth 100000
set_option linter.unusedSimpArgs false
set_option linter.unusedVariables false
namespace Go.Pv.Soil

def encInt (n : Int) : List D := [.int .i64 n]

theorem c165 (l : List Int) (hl : l.length < 1000000000000) (g : FuncId) (p : Int → Bool) (hf : ∀ x ∈ l, Contract Try.prog g [.int .i64 x] (.ret (.bool (p x)))) :
    Contract Try.prog 165 [.sl (l.map encInt), .clo (.func g) [] []] (.ret (.int .i64 (idxOf p l))) := by
  refine contract_of mix Try.func165 rfl rfl (by rw [Try.ntmps165]; exact Nat.le_of_ble_eq_true rfl) ?_; rw [Try.results165, Try.ntmps165]; simp only [argsE, Nat.reduceAdd]
  repeat' first
           | (with_reducible apply go_op)
           | (with_reducible apply go_next)
           | ((with_reducible (show evOp _ _ _ _ _ _)); first
             | ((with_reducible (show evOp _ (.move _) _ _ _ _)) ; first | ((with_reducible apply go_mv_int); rfl; rfl) | ((with_reducible apply go_mv_sl); rfl; rfl))
             | ((with_reducible apply go_as))
             | (((with_reducible apply go_len); rfl; rfl)))
           | ((with_reducible (show evOps _ _ _ _ _ _)); first
             | (with_reducible apply go_nil))
           | ((with_reducible (show evG _ _ _ _ _)); first
             | (with_reducible apply go_seq)
             | (with_reducible apply go_region)
             | (with_reducible apply go_block))
           | (with_reducible apply go_kseq)
  refine go_count (l.length) (fun i => ⟨[(8, .int .i64 i), (7, .int .i64 l.length), (0, .sl (l.map encInt)), (1, .clo (.func g) [] [])], [], 0, 19⟩) (fun i => ∀ j (hj : j < i) (hj' : j < l.length), p l[j] = false) (entails_eq (k := 0) (ns := []) (ks := [8, 7, 0, 1]) [] rfl (by simp) rfl) (by omega) ?_
  intro i hi hC
  repeat' first
           | (with_reducible apply go_op)
           | (with_reducible apply go_next)
           | ((with_reducible (show evOp _ _ _ _ _ _)); first
             | ((with_reducible (show evOp _ (.move _) _ _ _ _)) ; first | ((with_reducible apply go_mv_int); rfl; rfl) | ((with_reducible apply go_mv_sl); rfl; rfl) | ((with_reducible apply go_mv_clo); rfl; rfl))
             | ((with_reducible apply go_as))
             | (((with_reducible apply go_load); rfl; rfl; rfl))
             | (((with_reducible apply go_index); rfl; rfl; (intro; rfl); rfl; omega; intro hlt))
             | (((with_reducible apply go_cmp); rfl; rfl; rfl; rfl)))
           | ((with_reducible (show evOps _ _ _ _ _ _)); first
             | (with_reducible apply go_nil))
           | ((with_reducible (show evG _ _ _ _ _)); first
             | (with_reducible apply go_seq)
             | (with_reducible apply go_region)
             | (((with_reducible apply go_cond); rfl) <;> (intro h; simp only [h]; try simp only [decide_eq_true_eq, decide_eq_false_iff_not, Bool.not_eq_true', Bool.not_eq_false', Bool.not_true, Bool.not_false] at h; try exact absurd trivial h))
             | (with_reducible apply go_ret)
             | (with_reducible apply go_skipc)
             | (with_reducible apply go_block)
             | (with_reducible apply go_exit))
           | (with_reducible apply go_kseq)
           | (with_reducible apply go_kblock_exit)
           | (with_reducible apply go_kseq_exit)
           | ((with_reducible apply end_int); rfl)
  · refine go_clo_bool rfl rfl (fun _ _ => rfl) (hf l[i] (List.getElem_mem _)) rfl ?_
    repeat' first
           | (with_reducible apply go_op)
           | (with_reducible apply go_next)
           | ((with_reducible (show evOp _ _ _ _ _ _)); first
             | (((with_reducible apply go_mv_int); rfl; rfl))
             | ((with_reducible apply go_as))
             | (((with_reducible apply go_add); rfl; rfl; rfl; omega)))
           | ((with_reducible (show evOps _ _ _ _ _ _)); first
             | (with_reducible apply go_nil))
           | ((with_reducible (show evG _ _ _ _ _)); first
             | (with_reducible apply go_seq)
             | (with_reducible apply go_region)
             | (((with_reducible apply go_cond); rfl) <;> (intro h; simp only [h]; try simp only [decide_eq_true_eq, decide_eq_false_iff_not, Bool.not_eq_true', Bool.not_eq_false', Bool.not_true, Bool.not_false] at h; try exact absurd trivial h))
             | (with_reducible apply go_ret)
             | (with_reducible apply go_skipc))
           | (with_reducible apply go_kseq)
           | (with_reducible apply go_kseq_ret)
           | (with_reducible apply go_kblock)
           | (with_reducible apply go_kblock_ret)
           | ((with_reducible apply end_int); rfl)
    · have h2 : i < l.length := by omega
      exact (idxOf_some h2 h fun j hj => hC j hj (by omega)).symm
    · have h2 : i < l.length := by omega
      refine ⟨by omega, fun j hj hj' => ?_, entails_eq (k := 0) (ns := []) (ks := [8, 7, 0, 1]) [] rfl (by simp) rfl⟩
      rcases Nat.lt_succ_iff_lt_or_eq.1 hj with h' | rfl
      · exact hC j h' hj'
      · exact h
  · refine (idxOf_none fun x hx => ?_).symm
    obtain ⟨j, hj, rfl⟩ := List.mem_iff_getElem.1 hx
    exact hC j (by omega) hj

theorem c124 (l : List Int) (hl : l.length < 1000000000000) (g : FuncId) (p : Int → Bool) (hf : ∀ x ∈ l, Contract Try.prog g [.int .i64 x] (.ret (.bool (p x)))) :
    Contract Try.prog 124 [.sl (l.map encInt), .clo (.func g) [] []] (.ret (.bool (l.any p))) := by
  refine contract_of mix Try.func124 rfl rfl (by rw [Try.ntmps124]; exact Nat.le_of_ble_eq_true rfl) ?_; rw [Try.results124, Try.ntmps124]; simp only [argsE, Nat.reduceAdd]
  repeat' first
           | (with_reducible apply go_op)
           | (with_reducible apply go_next)
           | ((with_reducible (show evOp _ _ _ _ _ _)); first
             | ((with_reducible (show evOp _ (.move _) _ _ _ _)) ; first | ((with_reducible apply go_mv_bool); rfl; rfl) | ((with_reducible apply go_mv_sl); rfl; rfl) | ((with_reducible apply go_mv_clo); rfl; rfl))
             | ((with_reducible apply go_as))
             | (((with_reducible apply go_cmp); rfl; rfl; rfl; rfl))
             | (((with_reducible apply go_fn_int); rfl; (exact c165 l hl g p hf); rfl)))
           | ((with_reducible (show evOps _ _ _ _ _ _)); first
             | (with_reducible apply go_nil))
           | ((with_reducible (show evG _ _ _ _ _)); first
             | (with_reducible apply go_seq)
             | (with_reducible apply go_region)
             | (with_reducible apply go_ret))
           | (with_reducible apply go_kseq)
           | ((with_reducible apply end_bool); rfl)
  exact idxOf_ge
theorem c147 (n : Int) : Contract Try.prog 147 [.int .i64 n] (.ret (.bool (!lvOK n))) := by
  refine contract_of mix Try.func147 rfl rfl (by rw [Try.ntmps147]; exact Nat.le_of_ble_eq_true rfl) ?_; rw [Try.results147, Try.ntmps147]; simp only [argsE, Nat.reduceAdd]
  repeat' first
           | (with_reducible apply go_op)
           | (with_reducible apply go_next)
           | ((with_reducible (show evOp _ _ _ _ _ _)); first
             | ((with_reducible (show evOp _ (.move _) _ _ _ _)) ; first | ((with_reducible apply go_mv_int); rfl; rfl) | ((with_reducible apply go_mv_bool); rfl; rfl))
             | ((with_reducible apply go_as))
             | (((with_reducible apply go_fn_bool); rfl; (exact c114 _); rfl))
             | (((with_reducible apply go_not); rfl; rfl)))
           | ((with_reducible (show evOps _ _ _ _ _ _)); first
             | (with_reducible apply go_nil))
           | ((with_reducible (show evG _ _ _ _ _)); first
             | (with_reducible apply go_seq)
             | (with_reducible apply go_region)
             | (with_reducible apply go_ret))
           | (with_reducible apply go_kseq)
           | ((with_reducible apply end_bool); rfl)
           | (with_reducible rfl)

/-- The error of a ground, a place and levels. -/
def askedE (g : Ground) (p : Pt) (l : List Int) : Int := if groundE g ≠ 0 then groundE g else if ptOK p = false ∨ (l.any fun n => !lvOK n) = true then 2 else 0

theorem c96 (g : Ground) (hs : g.soils.length < 1000000000000) (hb : g.borings.length < 1000000000000) (p : Pt) (l : List Int) (hl : l.length < 1000000000000) :
    Contract Try.prog 96 [.agg (encGround g), .agg (encPt p), .sl (l.map encInt)] (.ret (.int .i64 (askedE g p l))) := by
  refine contract_of mix Try.func96 rfl rfl (by rw [Try.ntmps96]; exact Nat.le_of_ble_eq_true rfl) ?_; rw [Try.results96, Try.ntmps96]; simp only [argsE, Nat.reduceAdd]
  repeat' first
           | (with_reducible apply go_op)
           | (with_reducible apply go_next)
           | ((with_reducible (show evOp _ _ _ _ _ _)); first
             | ((with_reducible (show evOp _ (.move _) _ _ _ _)) ; first | ((with_reducible apply go_mv_int); rfl; rfl) | ((with_reducible apply go_mv_bool); rfl; rfl) | ((with_reducible apply go_mv_sl); rfl; rfl))
             | ((with_reducible apply go_as))
             | (((with_reducible apply go_ld_agg); rfl; rfl; rfl; rfl))
             | (((with_reducible apply go_cmp); rfl; rfl; rfl; rfl))
             | ((with_reducible (show evOp _ (.call _) _ _ _ _)) ; first | ((with_reducible apply go_fn_int); rfl; (exact c22 g hs hb); rfl) | ((with_reducible apply go_fn_bool); rfl; (exact c142 p); rfl) | ((with_reducible apply go_fn_bool); rfl; (exact c124 l hl 147 (fun n => !lvOK n) fun x _ => c147 x); rfl))
             | (((with_reducible apply go_not); rfl; rfl))
             | (((with_reducible apply go_pick); rfl; rfl; rfl))
             | (((with_reducible apply go_bx_agg); rfl; rfl; (exact Nat.le_of_ble_eq_true rfl); rfl; rfl)))
           | ((with_reducible (show evOps _ _ _ _ _ _)); first
             | (with_reducible apply go_nil)
             | ((with_reducible apply go_run); rfl; rfl)
             | ((with_reducible apply go_pass); rfl; rfl; rfl)
             | (((with_reducible apply go_guard); rfl) <;> (intro h; simp only [h, Bool.not_true, Bool.not_false]; (try with_reducible (refine ⟨rfl, ?_⟩)); try simp only [decide_eq_true_eq, decide_eq_false_iff_not, Bool.not_eq_true', Bool.not_eq_false', Bool.not_true, Bool.not_false] at h; try exact absurd trivial h)))
           | ((with_reducible (show evG _ _ _ _ _)); first
             | (with_reducible apply go_seq)
             | (with_reducible apply go_region)
             | ((with_reducible apply go_cond_t); rfl; rfl)
             | (((with_reducible apply go_cond); rfl) <;> (intro h; simp only [h]; try simp only [decide_eq_true_eq, decide_eq_false_iff_not, Bool.not_eq_true', Bool.not_eq_false', Bool.not_true, Bool.not_false] at h; try exact absurd trivial h))
             | (with_reducible apply go_ret)
             | (with_reducible apply go_skipc))
           | (with_reducible apply go_kseq)
           | (with_reducible apply go_kseq_ret)
           | ((with_reducible apply end_int); rfl)
  all_goals simp only [askedE]
  all_goals simp_all

theorem pt_no {p : Pt} (h : ¬ ((-1000000 ≤ p.x ∧ p.x ≤ 1000000) ∧ (-1000000 ≤ p.y ∧ p.y ≤ 1000000))) : true = !ptOK p := by
  simp only [ptOK, decide_eq_false h, Bool.not_false]
theorem pt_yes {p : Pt} (h : (-1000000 ≤ p.x ∧ p.x ≤ 1000000) ∧ (-1000000 ≤ p.y ∧ p.y ≤ 1000000)) : false = !ptOK p := by
  simp only [ptOK, decide_eq_true h, Bool.not_true]
theorem c172 (p : Pt) : Contract Try.prog 172 [.agg (encPt p)] (.ret (.bool (!ptOK p))) := by
  refine contract_of mix Try.func172 rfl rfl (by rw [Try.ntmps172]; exact Nat.le_of_ble_eq_true rfl) ?_; rw [Try.results172, Try.ntmps172]; simp only [argsE, Nat.reduceAdd]
  repeat' first
           | (with_reducible apply go_op)
           | (with_reducible apply go_next)
           | ((with_reducible (show evOp _ _ _ _ _ _)); first
             | (((with_reducible apply go_mv_bool); rfl; rfl))
             | ((with_reducible apply go_as))
             | (((with_reducible apply go_load_own); rfl; rfl; rfl; rfl))
             | (((with_reducible apply go_fieldAddr_own); rfl; rfl; rfl))
             | (((with_reducible apply go_cmp); rfl; rfl; rfl; rfl))
             | (((with_reducible apply go_pick); rfl; rfl; rfl))
             | (((with_reducible apply go_bx_agg); rfl; rfl; (exact Nat.le_of_ble_eq_true rfl); rfl; rfl)))
           | ((with_reducible (show evOps _ _ _ _ _ _)); first
             | (with_reducible apply go_nil)
             | ((with_reducible apply go_run); rfl; rfl)
             | ((with_reducible apply go_pass); rfl; rfl; rfl)
             | (((with_reducible apply go_guard); rfl) <;> (intro h; simp only [h, Bool.not_true, Bool.not_false]; (try with_reducible (refine ⟨rfl, ?_⟩)); try simp only [decide_eq_true_eq, decide_eq_false_iff_not, Bool.not_eq_true', Bool.not_eq_false', Bool.not_true, Bool.not_false] at h; try exact absurd trivial h)))
           | ((with_reducible (show evG _ _ _ _ _)); first
             | (with_reducible apply go_seq)
             | (with_reducible apply go_region)
             | (with_reducible apply go_ret))
           | (with_reducible apply go_kseq)
           | ((with_reducible apply end_bool); rfl)
  · by_cases h4 : 1000000 < p.y
    · rw [decide_eq_true h4]; exact pt_no (p := p) (by omega)
    · rw [decide_eq_false h4]; exact pt_yes (p := p) (by omega)
  all_goals exact pt_no (p := p) (by omega)

theorem c196 (l : List Pt) (hl : l.length < 1000000000000) (g : FuncId) (p : Pt → Bool) (hf : ∀ x ∈ l, Contract Try.prog g [.agg (encPt x)] (.ret (.bool (p x)))) :
    Contract Try.prog 196 [.sl (l.map encPt), .clo (.func g) [] []] (.ret (.int .i64 (idxOf p l))) := by
  refine contract_of mix Try.func196 rfl rfl (by rw [Try.ntmps196]; exact Nat.le_of_ble_eq_true rfl) ?_; rw [Try.results196, Try.ntmps196]; simp only [argsE, Nat.reduceAdd]
  repeat' first
           | (with_reducible apply go_op)
           | (with_reducible apply go_next)
           | ((with_reducible (show evOp _ _ _ _ _ _)); first
             | ((with_reducible (show evOp _ (.move _) _ _ _ _)) ; first | ((with_reducible apply go_mv_int); rfl; rfl) | ((with_reducible apply go_mv_sl); rfl; rfl))
             | ((with_reducible apply go_as))
             | (((with_reducible apply go_len); rfl; rfl)))
           | ((with_reducible (show evOps _ _ _ _ _ _)); first
             | (with_reducible apply go_nil))
           | ((with_reducible (show evG _ _ _ _ _)); first
             | (with_reducible apply go_seq)
             | (with_reducible apply go_region)
             | (with_reducible apply go_block))
           | (with_reducible apply go_kseq)
  refine go_count (l.length) (fun i => ⟨[(8, .int .i64 i), (7, .int .i64 l.length), (0, .sl (l.map encPt)), (1, .clo (.func g) [] [])], [], 0, 19⟩) (fun i => ∀ j (hj : j < i) (hj' : j < l.length), p l[j] = false) (entails_eq (k := 0) (ns := []) (ks := [8, 7, 0, 1]) [] rfl (by simp) rfl) (by omega) ?_
  intro i hi hC
  repeat' first
           | (with_reducible apply go_op)
           | (with_reducible apply go_next)
           | ((with_reducible (show evOp _ _ _ _ _ _)); first
             | ((with_reducible (show evOp _ (.move _) _ _ _ _)) ; first | ((with_reducible apply go_mv_int); rfl; rfl) | ((with_reducible apply go_mv_sl); rfl; rfl) | ((with_reducible apply go_mv_clo); rfl; rfl))
             | ((with_reducible apply go_as))
             | (((with_reducible apply go_load); rfl; rfl; rfl))
             | (((with_reducible apply go_index); rfl; rfl; (intro; rfl); rfl; omega; intro hlt))
             | (((with_reducible apply go_cmp); rfl; rfl; rfl; rfl)))
           | ((with_reducible (show evOps _ _ _ _ _ _)); first
             | (with_reducible apply go_nil))
           | ((with_reducible (show evG _ _ _ _ _)); first
             | (with_reducible apply go_seq)
             | (with_reducible apply go_region)
             | (((with_reducible apply go_cond); rfl) <;> (intro h; simp only [h]; try simp only [decide_eq_true_eq, decide_eq_false_iff_not, Bool.not_eq_true', Bool.not_eq_false', Bool.not_true, Bool.not_false] at h; try exact absurd trivial h))
             | (with_reducible apply go_ret)
             | (with_reducible apply go_skipc)
             | (with_reducible apply go_block)
             | (with_reducible apply go_exit))
           | (with_reducible apply go_kseq)
           | (with_reducible apply go_kblock_exit)
           | (with_reducible apply go_kseq_exit)
           | ((with_reducible apply end_int); rfl)
  · refine go_clo_bool (d1 := .agg (encPt l[i])) rfl rfl (fun _ _ => rfl) (hf l[i] (List.getElem_mem _)) rfl ?_
    repeat' first
           | (with_reducible apply go_op)
           | (with_reducible apply go_next)
           | ((with_reducible (show evOp _ _ _ _ _ _)); first
             | (((with_reducible apply go_mv_int); rfl; rfl))
             | ((with_reducible apply go_as))
             | (((with_reducible apply go_add); rfl; rfl; rfl; omega)))
           | ((with_reducible (show evOps _ _ _ _ _ _)); first
             | (with_reducible apply go_nil))
           | ((with_reducible (show evG _ _ _ _ _)); first
             | (with_reducible apply go_seq)
             | (with_reducible apply go_region)
             | (((with_reducible apply go_cond); rfl) <;> (intro h; simp only [h]; try simp only [decide_eq_true_eq, decide_eq_false_iff_not, Bool.not_eq_true', Bool.not_eq_false', Bool.not_true, Bool.not_false] at h; try exact absurd trivial h))
             | (with_reducible apply go_ret)
             | (with_reducible apply go_skipc))
           | (with_reducible apply go_kseq)
           | (with_reducible apply go_kseq_ret)
           | (with_reducible apply go_kblock)
           | (with_reducible apply go_kblock_ret)
           | ((with_reducible apply end_int); rfl)
    · have h2 : i < l.length := by omega
      exact (idxOf_some h2 h fun j hj => hC j hj (by omega)).symm
    · have h2 : i < l.length := by omega
      refine ⟨by omega, fun j hj hj' => ?_, entails_eq (k := 0) (ns := []) (ks := [8, 7, 0, 1]) [] rfl (by simp) rfl⟩
      rcases Nat.lt_succ_iff_lt_or_eq.1 hj with h' | rfl
      · exact hC j h' hj'
      · exact h
  · refine (idxOf_none fun x hx => ?_).symm
    obtain ⟨j, hj, rfl⟩ := List.mem_iff_getElem.1 hx
    exact hC j (by omega) hj
theorem c171 (l : List Pt) (hl : l.length < 1000000000000) (g : FuncId) (p : Pt → Bool) (hf : ∀ x ∈ l, Contract Try.prog g [.agg (encPt x)] (.ret (.bool (p x)))) :
    Contract Try.prog 171 [.sl (l.map encPt), .clo (.func g) [] []] (.ret (.bool (l.any p))) := by
  refine contract_of mix Try.func171 rfl rfl (by rw [Try.ntmps171]; exact Nat.le_of_ble_eq_true rfl) ?_; rw [Try.results171, Try.ntmps171]; simp only [argsE, Nat.reduceAdd]
  repeat' first
           | (with_reducible apply go_op)
           | (with_reducible apply go_next)
           | ((with_reducible (show evOp _ _ _ _ _ _)); first
             | ((with_reducible (show evOp _ (.move _) _ _ _ _)) ; first | ((with_reducible apply go_mv_bool); rfl; rfl) | ((with_reducible apply go_mv_sl); rfl; rfl) | ((with_reducible apply go_mv_clo); rfl; rfl))
             | ((with_reducible apply go_as))
             | (((with_reducible apply go_cmp); rfl; rfl; rfl; rfl))
             | (((with_reducible apply go_fn_int); rfl; (exact c196 l hl g p hf); rfl)))
           | ((with_reducible (show evOps _ _ _ _ _ _)); first
             | (with_reducible apply go_nil))
           | ((with_reducible (show evG _ _ _ _ _)); first
             | (with_reducible apply go_seq)
             | (with_reducible apply go_region)
             | (with_reducible apply go_ret))
           | (with_reducible apply go_kseq)
           | ((with_reducible apply end_bool); rfl)
  exact idxOf_ge
theorem c128 (l : List Pt) (hl : l.length < 1000000000000) : Contract Try.prog 128 [.sl (l.map encPt)] (.ret (.bool (l.any fun p => !ptOK p))) := by
  refine contract_of mix Try.func128 rfl rfl (by rw [Try.ntmps128]; exact Nat.le_of_ble_eq_true rfl) ?_; rw [Try.results128, Try.ntmps128]; simp only [argsE, Nat.reduceAdd]
  repeat' first
           | (with_reducible apply go_op)
           | (with_reducible apply go_next)
           | ((with_reducible (show evOp _ _ _ _ _ _)); first
             | ((with_reducible (show evOp _ (.move _) _ _ _ _)) ; first | ((with_reducible apply go_mv_bool); rfl; rfl) | ((with_reducible apply go_mv_sl); rfl; rfl))
             | ((with_reducible apply go_as))
             | (((with_reducible apply go_fn_bool); rfl; (exact c171 l hl 172 (fun p => !ptOK p) fun x _ => c172 x); rfl)))
           | ((with_reducible (show evOps _ _ _ _ _ _)); first
             | (with_reducible apply go_nil))
           | ((with_reducible (show evG _ _ _ _ _)); first
             | (with_reducible apply go_seq)
             | (with_reducible apply go_region)
             | (with_reducible apply go_ret))
           | (with_reducible apply go_kseq)
           | ((with_reducible apply end_bool); rfl)
           | (with_reducible rfl)

/-- The scalar product of b - a and c - a. -/
def dotE (a b c : Pt) : Int := (b.x - a.x) * (c.x - a.x) + (b.y - a.y) * (c.y - a.y)
def sqE (a b : Pt) : Int := (b.x - a.x) * (b.x - a.x) + (b.y - a.y) * (b.y - a.y)

theorem ptOK_bd {p : Pt} (h : ptOK p = true) : (-1000000 ≤ p.x ∧ p.x ≤ 1000000) ∧ (-1000000 ≤ p.y ∧ p.y ≤ 1000000) := by
  simpa [ptOK] using h
theorem prod_bd {a b m : Int} (hm : 0 ≤ m) (ha : -m ≤ a ∧ a ≤ m) (hb : -m ≤ b ∧ b ≤ m) : -(m * m) ≤ a * b ∧ a * b ≤ m * m := by
  have h : (a * b).natAbs ≤ (m * m).natAbs := by
    rw [Int.natAbs_mul, Int.natAbs_mul]
    exact Nat.mul_le_mul (by omega) (by omega)
  have h2 : ((m * m).natAbs : Int) = m * m := Int.natAbs_of_nonneg (Int.mul_nonneg hm hm)
  omega
theorem prod4 {a b : Int} (ha : -2000000 ≤ a ∧ a ≤ 2000000) (hb : -2000000 ≤ b ∧ b ≤ 2000000) : -4000000000000 ≤ a * b ∧ a * b ≤ 4000000000000 := by
  have := prod_bd (m := 2000000) (by omega) ha hb; omega

theorem c133 (a b c : Pt) (ha : ptOK a = true) (hb : ptOK b = true) (hc : ptOK c = true) : Contract Try.prog 133 [.agg (encPt a), .agg (encPt b), .agg (encPt c)] (.ret (.int .i64 (dotE a b c))) := by
  have h1 := ptOK_bd ha
  have h2 := ptOK_bd hb
  have h3 := ptOK_bd hc
  have m1 := prod4 (a := b.x - a.x) (b := c.x - a.x) (by omega) (by omega)
  have m2 := prod4 (a := b.y - a.y) (b := c.y - a.y) (by omega) (by omega)
  refine contract_of mix Try.func133 rfl rfl (by rw [Try.ntmps133]; exact Nat.le_of_ble_eq_true rfl) ?_; rw [Try.results133, Try.ntmps133]; simp only [argsE, Nat.reduceAdd]
  repeat' first
           | (with_reducible apply go_op)
           | (with_reducible apply go_next)
           | ((with_reducible (show evOp _ _ _ _ _ _)); first
             | (((with_reducible apply go_mv_int); rfl; rfl))
             | ((with_reducible apply go_as))
             | (((with_reducible apply go_load_own); rfl; rfl; rfl; rfl))
             | (((with_reducible apply go_fieldAddr_own); rfl; rfl; rfl))
             | ((with_reducible (show evOp _ (.binOp _ _ _ _ _) _ _ _ _)) ; first | ((with_reducible apply go_add); rfl; rfl; rfl; omega) | ((with_reducible apply go_sub); rfl; rfl; rfl; omega) | ((with_reducible apply go_mul); rfl; rfl; rfl; omega))
             | (((with_reducible apply go_bx_agg); rfl; rfl; (exact Nat.le_of_ble_eq_true rfl); rfl; rfl)))
           | ((with_reducible (show evOps _ _ _ _ _ _)); first
             | (with_reducible apply go_nil))
           | ((with_reducible (show evG _ _ _ _ _)); first
             | (with_reducible apply go_seq)
             | (with_reducible apply go_region)
             | (with_reducible apply go_ret))
           | (with_reducible apply go_kseq)
           | ((with_reducible apply end_int); rfl)
  rfl
theorem c149 (a b c : Pt) (ha : ptOK a = true) (hb : ptOK b = true) (hc : ptOK c = true) : Contract Try.prog 149 [.agg (encPt a), .agg (encPt b), .agg (encPt c)] (.ret (.int .i64 (dotE a b c))) := by
  have h1 := ptOK_bd ha
  have h2 := ptOK_bd hb
  have h3 := ptOK_bd hc
  have m1 := prod4 (a := b.x - a.x) (b := c.x - a.x) (by omega) (by omega)
  have m2 := prod4 (a := b.y - a.y) (b := c.y - a.y) (by omega) (by omega)
  refine contract_of mix Try.func149 rfl rfl (by rw [Try.ntmps149]; exact Nat.le_of_ble_eq_true rfl) ?_; rw [Try.results149, Try.ntmps149]; simp only [argsE, Nat.reduceAdd]
  repeat' first
           | (with_reducible apply go_op)
           | (with_reducible apply go_next)
           | ((with_reducible (show evOp _ _ _ _ _ _)); first
             | (((with_reducible apply go_mv_int); rfl; rfl))
             | ((with_reducible apply go_as))
             | (((with_reducible apply go_load_own); rfl; rfl; rfl; rfl))
             | (((with_reducible apply go_fieldAddr_own); rfl; rfl; rfl))
             | ((with_reducible (show evOp _ (.binOp _ _ _ _ _) _ _ _ _)) ; first | ((with_reducible apply go_add); rfl; rfl; rfl; omega) | ((with_reducible apply go_sub); rfl; rfl; rfl; omega) | ((with_reducible apply go_mul); rfl; rfl; rfl; omega))
             | (((with_reducible apply go_bx_agg); rfl; rfl; (exact Nat.le_of_ble_eq_true rfl); rfl; rfl)))
           | ((with_reducible (show evOps _ _ _ _ _ _)); first
             | (with_reducible apply go_nil))
           | ((with_reducible (show evG _ _ _ _ _)); first
             | (with_reducible apply go_seq)
             | (with_reducible apply go_region)
             | (with_reducible apply go_ret))
           | (with_reducible apply go_kseq)
           | ((with_reducible apply end_int); rfl)
  rfl
end Go.Pv.Soil

open Go Go.Proofs Go.Pv Go.Shelf
set_option maxHeartbeats 4000000
set_option maxRecDepth 100000
set_option linter.unusedVariables false
namespace Go.Pv.Soil
def encRule (num den least : Int) : List D := [.int .i64 num, .int .i64 den, .int .i64 least]
theorem repP_int {w : World} {pu : Nat → Prop} {v : Value} {k : IntKind} {n : Int} (h : RepP w pu v (.int k n)) : v = .int k n := by cases h; rfl
theorem c_ranked (l : List Int) (num den least : Int) (hn : 0 < l.length) (h60 : l.length ≤ 60) (hl : least ≤ l.length) (hd : 1 ≤ den ∧ den ≤ 1000) (hnum : 1 ≤ num ∧ num ≤ den) :
    Contract Try.prog 126 [.sl (l.map encInt), .agg (encRule num den least)] (.ret (.tup [.int .i64 (rankI l num den), .int .i64 0])) := by
  refine ⟨⟨_, Try.func126, by kernel_rfl, by kernel_rfl⟩, fun S w args hS ⟨hsz, hrep⟩ => ?_⟩
  obtain ⟨v0, v1, rfl⟩ : ∃ v0 v1, args = #[v0, v1] := by
    match args, hsz with
    | ⟨[a, b]⟩, _ => exact ⟨a, b, rfl⟩
  have h0 := hrep 0 v0 _ rfl rfl
  have h1 := hrep 1 v1 _ rfl rfl
  obtain ⟨vs, rfl, hvl, hv⟩ : ∃ vs, v1 = .agg vs ∧ vs.size = 3 ∧ ∀ (i : Nat) (v : Value) (d : D), vs[i]? = some v → (encRule num den least)[i]? = some d → RepP w S v d := by
    cases h1 with
    | agg vs cs hl h => exact ⟨vs, rfl, hl, h⟩
  obtain ⟨a, b, c, rfl⟩ : ∃ a b c, vs = #[a, b, c] := by
    match vs, hvl with
    | ⟨[a, b, c]⟩, _ => exact ⟨a, b, c, rfl⟩
  have ea := repP_int (hv 0 a _ rfl rfl)
  have eb := repP_int (hv 1 b _ rfl rfl)
  have ec := repP_int (hv 2 c _ rfl rfl)
  subst ea eb ec
  obtain ⟨blk, off, cap, rfl, hlt, hc⟩ : ∃ blk off cap, v0 = .slice (some ⟨blk, off, none⟩) l.length cap ∧ blk < w.heap.size ∧ ∀ j, j < l.length → w.cell? ⟨blk, off + j, none⟩ = some (.int .i64 (l[j]?.getD 0)) := by
    generalize hrows : l.map encInt = rows at h0
    have hrl : rows.length = l.length := by rw [← hrows, List.length_map]
    cases h0 with
    | sl a cap rows k f hc hk hm h =>
      obtain ⟨blk, off, rfl, hp, hcell⟩ := hm (fun e => by rw [e] at hrl; simp at hrl; omega)
      refine ⟨blk, off, cap, by rw [hrl], hS _ hp, fun j hj => ?_⟩
      have hj' : j < rows.length := by omega
      have hk1 : k = 1 := by
        have := hk (rows[j]) (List.getElem_mem hj')
        have e : rows[j] = [D.int .i64 l[j]] := by subst hrows; simp [encInt]
        rw [e] at this; simpa using this.symm
      subst hk1
      have h3 := hcell j 0 hj' (by omega)
      have h4 := repP_int (h j 0 (.int .i64 l[j]) (by subst hrows; simp [cellAt, hj, encInt]))
      rw [h4] at h3
      rw [List.getElem?_eq_getElem hj]
      simpa using h3
  refine (callsIn_wide.1 (ranked_in Fence.wide trivial trivial trivial trivial trivial trivial trivial rfl (sorts _) blk off cap l num den least hn h60 hl hd hnum w hlt hc)).mono ?_
  rintro e w' ⟨rfl, hb⟩
  have hb' : Below w.heap.size w w' := ⟨hb.os, hb.tape, hb.output, hb.size, hb.block, Draws.any _ _⟩
  refine ⟨hb', fun _ => False, fun g h => h.elim, _, rfl, fun n => ⟨fun _ => .pending, ⟨fun b blk hb => by simp [adopt, adT, adE, adC, lkH] at hb, fun b _ => .inr rfl, fun b b' g h => h.elim, fun b g h => h.elim, fun g h => h.elim⟩, ?_, fun b _ => rfl⟩⟩
  refine .tup _ _ rfl fun i v d e1 e2 => ?_
  match i with
  | 0 => injection e1 with e1; injection e2 with e2; subst e1; subst e2; exact .pure _ _ (.int _ _)
  | 1 => injection e1 with e1; injection e2 with e2; subst e1; subst e2; exact .pure _ _ (.int _ _)
  | i + 2 => exact absurd e1 (by simp)
theorem c_few (l : List Int) (num den least : Int) (h60 : l.length ≤ 60) (hl : (l.length : Int) < least) :
    Contract Try.prog 126 [.sl (l.map encInt), .agg (encRule num den least)] (.ret (.tup [.int .i64 0, .int .i64 11])) := by
  refine contract_of mix Try.func126 rfl rfl (by rw [Try.ntmps126]; exact Nat.le_of_ble_eq_true rfl) ?_; rw [Try.results126, Try.ntmps126]; simp only [argsE, Nat.reduceAdd]
  repeat' first
           | (with_reducible apply go_op)
           | (with_reducible apply go_next)
           | ((with_reducible (show evOp _ _ _ _ _ _)); first
             | ((with_reducible (show evOp _ (.move _) _ _ _ _)) ; first | ((with_reducible apply go_mv_int); rfl; rfl) | ((with_reducible apply go_mv_sl); rfl; rfl))
             | ((with_reducible apply go_as))
             | (((with_reducible apply go_load_own); rfl; rfl; rfl; rfl))
             | (((with_reducible apply go_fieldAddr_own); rfl; rfl; rfl))
             | (((with_reducible apply go_cmp); rfl; rfl; rfl; rfl))
             | (((with_reducible apply go_len); rfl; rfl))
             | (((with_reducible apply go_bx_agg); rfl; rfl; (exact Nat.le_of_ble_eq_true rfl); rfl; rfl)))
           | ((with_reducible (show evOps _ _ _ _ _ _)); first
             | (with_reducible apply go_nil))
           | ((with_reducible (show evG _ _ _ _ _)); first
             | (with_reducible apply go_seq)
             | (with_reducible apply go_region)
             | (((with_reducible apply go_cond); rfl) <;> (intro h; simp only [h]; try simp only [decide_eq_true_eq, decide_eq_false_iff_not, Bool.not_eq_true', Bool.not_eq_false', Bool.not_true, Bool.not_false] at h; try exact absurd trivial h))
             | (with_reducible apply go_ret)
             | (with_reducible apply go_skipc))
           | (with_reducible apply go_kseq)
           | (with_reducible apply go_kseq_ret)
           | ((with_reducible apply end_t2); rfl; rfl; rfl; rfl)
  all_goals first | rfl | (exfalso; omega)
end Go.Pv.Soil

open Go Go.Proofs Go.Pv
set_option maxHeartbeats 1000000
set_option maxRecDepth 100000
set_option linter.unusedSimpArgs false
set_option linter.unusedVariables false
namespace Go.Pv.Soil

theorem c23 (g : Ground) (hl : g.soils.length < 1000000000000) (hb : g.borings.length < 1000000000000) : Contract Try.prog 23 [.agg (encGround g)] (.ret (.int .i64 (groundE g))) := by
  refine contract_of mix Try.func23 rfl rfl (by rw [Try.ntmps23]; exact Nat.le_of_ble_eq_true rfl) ?_; rw [Try.results23, Try.ntmps23]; simp only [argsE, Nat.reduceAdd]
  repeat' first
           | (with_reducible apply go_op)
           | (with_reducible apply go_next)
           | ((with_reducible (show evOp _ _ _ _ _ _)); first
             | (((with_reducible apply go_mv_int); rfl; rfl))
             | ((with_reducible apply go_as))
             | (((with_reducible apply go_load_own); rfl; rfl; rfl; rfl))
             | (((with_reducible apply go_fieldAddr_own); rfl; rfl; rfl))
             | (((with_reducible apply go_cmp); rfl; rfl; rfl; rfl))
             | ((with_reducible (show evOp _ (.call _) _ _ _ _)) ; first | ((with_reducible apply go_len); rfl; rfl) | ((with_reducible apply go_fn_int); rfl; (exact c21 g.soils hl); rfl))
             | (((with_reducible apply go_bx_agg); rfl; rfl; (exact Nat.le_of_ble_eq_true rfl); rfl; rfl)))
           | ((with_reducible (show evOps _ _ _ _ _ _)); first
             | (with_reducible apply go_nil))
           | ((with_reducible (show evG _ _ _ _ _)); first
             | (with_reducible apply go_seq)
             | (with_reducible apply go_region)
             | (((with_reducible apply go_cond); rfl) <;> (intro h; simp only [h]; try simp only [decide_eq_true_eq, decide_eq_false_iff_not, Bool.not_eq_true', Bool.not_eq_false', Bool.not_true, Bool.not_false] at h; try exact absurd trivial h))
             | (with_reducible apply go_ret)
             | (with_reducible apply go_skipc)
             | (with_reducible apply go_block))
           | (with_reducible apply go_kseq)
           | (with_reducible apply go_kseq_ret)
           | ((with_reducible apply end_int); rfl)
  · simp only [groundE]; rw [if_pos h]
  · simp only [groundE]; rw [if_neg (by simp [*]), if_pos (by omega)]
  · simp only [groundE]; rw [if_neg (by simp [*]), if_neg (by omega), if_pos (by omega)]
  have hs : groundE g = eachE (·.name) (borE g.soils) g.borings := by
    simp only [groundE]; rw [if_neg (by simp [*]), if_neg (by omega), if_neg (by omega)]
  rw [hs]
  refine go_count g.borings.length (fun i => ⟨[(4, .int .i64 i), (1, .op 0 0 0)], [(0, ⟨2, true, [encGround g]⟩)], 32, 65⟩) (fun i => ∀ j, j < i → stepE (·.name) (borE g.soils) g.borings j = 0)
    (entails_eq (k := 0) (ns := []) (ks := [4, 1]) [(0, 0)] rfl (by simp) rfl) (by omega) ?_
  intro i hi hC
  repeat' first
           | (with_reducible apply go_op)
           | (with_reducible apply go_next)
           | ((with_reducible (show evOp _ _ _ _ _ _)); first
             | (((with_reducible apply go_mv_int); rfl; rfl))
             | ((with_reducible apply go_as))
             | ((with_reducible (show evOp _ (.load _ _) _ _ _ _)) ; first | ((with_reducible apply go_load); rfl; rfl; rfl) | ((with_reducible apply go_load_own); rfl; rfl; rfl; rfl))
             | ((with_reducible (show evOp _ (.fieldAddr _ _ _) _ _ _ _)) ; first | ((with_reducible apply go_fieldAddr); rfl; rfl) | ((with_reducible apply go_fieldAddr_own); rfl; rfl; rfl))
             | (((with_reducible apply go_index); rfl; rfl; (intro; rfl); rfl; omega; intro hlt))
             | (((with_reducible apply go_cmp); rfl; rfl; rfl; rfl))
             | ((with_reducible (show evOp _ (.call _) _ _ _ _)) ; first | ((with_reducible apply go_len); rfl; rfl) | ((with_reducible apply go_fn_bool); rfl; (exact c83 _); rfl))
             | (((with_reducible apply go_not); rfl; rfl)))
           | ((with_reducible (show evOps _ _ _ _ _ _)); first
             | (with_reducible apply go_nil))
           | ((with_reducible (show evG _ _ _ _ _)); first
             | (with_reducible apply go_seq)
             | (with_reducible apply go_region)
             | (((with_reducible apply go_cond); rfl) <;> (intro h; simp only [h]; try simp only [decide_eq_true_eq, decide_eq_false_iff_not, Bool.not_eq_true', Bool.not_eq_false', Bool.not_true, Bool.not_false] at h; try exact absurd trivial h))
             | (with_reducible apply go_ret)
             | (with_reducible apply go_skipc)
             | (with_reducible apply go_block)
             | (with_reducible apply go_exit))
           | (with_reducible apply go_kseq)
           | (with_reducible apply go_kseq_ret)
           | (with_reducible apply go_kblock_ret)
           | (with_reducible apply go_kblock_exit)
           | (with_reducible apply go_kseq_exit)
           | ((with_reducible apply end_int); rfl)
  · have h2 : i < g.borings.length := by omega
    simp only [Int.toNat_natCast] at h
    exact each_at h2 hC (by simp only [stepE, List.getElem?_eq_getElem h2, h]; simp) (by decide)
  · have h2 : i < g.borings.length := by omega
    simp only [Int.toNat_natCast] at h
    have hnm := h
    refine go_count i (fun j => ⟨[(5, .int .i64 j), (4, .int .i64 i), (1, .op 0 0 0)], [(0, ⟨2, true, [encGround g]⟩)], 32, 65⟩) (fun j => ∀ k (hk : k < j) (hk' : k < g.borings.length), ¬ g.borings[k].name = g.borings[i].name)
      (entails_eq (k := 0) (ns := []) (ks := [5, 4, 1]) [(0, 0)] rfl (by simp) rfl) (by omega) ?_
    intro j hj hC2
    repeat' first
           | (with_reducible apply go_op)
           | (with_reducible apply go_next)
           | ((with_reducible (show evOp _ _ _ _ _ _)); first
             | (((with_reducible apply go_mv_int); rfl; rfl))
             | ((with_reducible apply go_as))
             | ((with_reducible (show evOp _ (.load _ _) _ _ _ _)) ; first | ((with_reducible apply go_load); rfl; rfl; rfl) | ((with_reducible apply go_load_own); rfl; rfl; rfl; rfl))
             | ((with_reducible (show evOp _ (.fieldAddr _ _ _) _ _ _ _)) ; first | ((with_reducible apply go_fieldAddr); rfl; rfl) | ((with_reducible apply go_fieldAddr_own); rfl; rfl; rfl))
             | (((with_reducible apply go_index); rfl; rfl; (intro; rfl); rfl; omega; intro hlt))
             | ((with_reducible (show evOp _ (.binOp _ _ _ _ _) _ _ _ _)) ; first | ((with_reducible apply go_cmp); rfl; rfl; rfl; rfl) | ((with_reducible apply go_add); rfl; rfl; rfl; omega) | ((with_reducible apply go_bin); rfl; rfl))
             | (((with_reducible apply go_fn_int); rfl; (exact c89 g.soils g.borings[i] hl); rfl)))
           | ((with_reducible (show evOps _ _ _ _ _ _)); first
             | (with_reducible apply go_nil)
             | ((with_reducible apply go_pre); rfl)
             | (with_reducible apply go_pre_nil)
             | ((with_reducible apply go_suf); rfl)
             | (with_reducible apply go_suf_nil))
           | ((with_reducible (show evG _ _ _ _ _)); first
             | (with_reducible apply go_seq)
             | (with_reducible apply go_region)
             | (((with_reducible apply go_cond); rfl) <;> (intro h; simp only [h]; try simp only [decide_eq_true_eq, decide_eq_false_iff_not, Bool.not_eq_true', Bool.not_eq_false', Bool.not_true, Bool.not_false] at h; try exact absurd trivial h))
             | ((with_reducible apply go_order); kernel_rfl; rfl)
             | (with_reducible apply go_ret)
             | (with_reducible apply go_skipc)
             | (with_reducible apply go_block)
             | (with_reducible apply go_exit))
           | (with_reducible apply go_kseq)
           | (with_reducible apply go_ksuf)
           | (with_reducible apply go_kseq_ret)
           | (with_reducible apply go_kblock)
           | (with_reducible apply go_kblock_ret)
           | (with_reducible apply go_kblock_exit)
           | (with_reducible apply go_kseq_exit)
           | ((with_reducible apply end_int); rfl)
    all_goals try simp only [Int.toNat_natCast] at *
    · have h3 : ((g.borings.take i).any fun y => decide (y.name = g.borings[i].name)) = true := by
        rw [List.any_eq_true]
        exact ⟨g.borings[j]'(by omega), List.mem_iff_getElem.2 ⟨j, by simp; omega, by simp⟩, by simpa using h⟩
      exact each_at h2 hC (by simp only [stepE, List.getElem?_eq_getElem h2, h3, hnm]; simp) (by decide)
    · refine ⟨by omega, fun k hk hk' => ?_, entails_eq (k := 0) (ns := []) (ks := [5, 4, 1]) [(0, 0)] rfl (by simp) rfl⟩
      rcases Nat.lt_succ_iff_lt_or_eq.1 hk with h' | rfl
      · exact hC2 k h' hk'
      · exact h
    all_goals
      have h3 : ((g.borings.take i).any fun y => decide (y.name = g.borings[i].name)) = false := by
        rw [List.any_eq_false]
        intro y hy
        obtain ⟨k, hk, rfl⟩ := List.mem_iff_getElem.1 hy
        simp only [List.length_take] at hk
        simpa using hC2 k (by omega) (by omega)
    · exact each_at h2 hC (by simp only [stepE, List.getElem?_eq_getElem h2, h3, hnm]; simp) h
    · refine ⟨h2, fun k hk => ?_, entails_eq (k := 0) (ns := []) (ks := [4, 1]) [(0, 0)] rfl (by simp) rfl⟩
      rcases Nat.lt_succ_iff_lt_or_eq.1 hk with h' | rfl
      · exact hC k h'
      · simp only [stepE, List.getElem?_eq_getElem h2, h3, hnm]; simpa using h
  · exact (firstE_zero fun j hj => hC j (by omega)).symm
end Go.Pv.Soil

open Go Go.Proofs Go.Pv
set_option maxHeartbeats 1000000
set_option maxRecDepth 100000
set_option linter.unusedSimpArgs false
set_option linter.unusedVariables false
namespace Go.Pv.Soil

/-- The inputs that the laws look at. -/
def slightB (b : Boring) : Bool := decide (b.name.size ≤ 50) && decide (b.layers.length ≤ 14) && b.layers.all fun l => decide (l.soil.size ≤ 50)
def slightE (g : Ground) : Bool := decide (g.soils.length ≤ 10) && decide (g.borings.length ≤ 22) && g.soils.all (fun s => decide (s.name.size ≤ 50)) && g.borings.all slightB

theorem slight_soil {g : Ground} {i : Nat} (hi : i < g.soils.length) (h : ¬ g.soils[i].name.size ≤ 50) : false = slightE g := by
  have : g.soils.all (fun s => decide (s.name.size ≤ 50)) = false := by
    rw [List.all_eq_false]
    exact ⟨_, List.getElem_mem hi, by simpa using h⟩
  simp only [slightE, this, Bool.and_false, Bool.false_and]
theorem slight_bor {g : Ground} {i : Nat} (hi : i < g.borings.length) (h : slightB g.borings[i] = false) : false = slightE g := by
  have : g.borings.all slightB = false := by
    rw [List.all_eq_false]
    exact ⟨_, List.getElem_mem hi, by simp [h]⟩
  simp only [slightE, this, Bool.and_false]
theorem slightB_lay {b : Boring} {i : Nat} (hi : i < b.layers.length) (h : ¬ b.layers[i].soil.size ≤ 50) : slightB b = false := by
  have : (b.layers.all fun l => decide (l.soil.size ≤ 50)) = false := by
    rw [List.all_eq_false]
    exact ⟨_, List.getElem_mem hi, by simpa using h⟩
  simp only [slightB, this, Bool.and_false]
theorem slightB_no {b : Boring} (h : ¬ b.name.size ≤ 50 ∨ ¬ b.layers.length ≤ 14) : slightB b = false := by
  rcases h with h | h
  · simp only [slightB, decide_eq_false h, Bool.false_and]
  · simp only [slightB, decide_eq_false h, Bool.and_false, Bool.false_and]
theorem slightB_yes {b : Boring} (h1 : b.name.size ≤ 50) (h2 : b.layers.length ≤ 14) (h : ∀ i (hi : i < b.layers.length), b.layers[i].soil.size ≤ 50) : slightB b = true := by
  simp only [slightB, Bool.and_eq_true, decide_eq_true_eq, List.all_eq_true]
  refine ⟨⟨h1, h2⟩, fun l hl => ?_⟩
  obtain ⟨i, hi, rfl⟩ := List.mem_iff_getElem.1 hl
  exact h i hi
theorem slight_yes {g : Ground} (h1 : g.soils.length ≤ 10) (h2 : g.borings.length ≤ 22) (h3 : ∀ i (hi : i < g.soils.length), g.soils[i].name.size ≤ 50) (h4 : ∀ i (hi : i < g.borings.length), slightB g.borings[i] = true) : true = slightE g := by
  symm
  simp only [slightE, Bool.and_eq_true, decide_eq_true_eq, List.all_eq_true]
  refine ⟨⟨⟨h1, h2⟩, fun l hl => ?_⟩, fun l hl => ?_⟩
  · obtain ⟨i, hi, rfl⟩ := List.mem_iff_getElem.1 hl
    exact h3 i hi
  · obtain ⟨i, hi, rfl⟩ := List.mem_iff_getElem.1 hl
    exact h4 i hi

theorem c19 (g : Ground) : Contract Try.prog 19 [.agg (encGround g)] (.ret (.bool (slightE g))) := by
  refine contract_of mix Try.func19 rfl rfl (by rw [Try.ntmps19]; exact Nat.le_of_ble_eq_true rfl) ?_; rw [Try.results19, Try.ntmps19]; simp only [argsE, Nat.reduceAdd]
  repeat' first
           | (with_reducible apply go_op)
           | (with_reducible apply go_next)
           | ((with_reducible (show evOp _ _ _ _ _ _)); first
             | ((with_reducible (show evOp _ (.move _) _ _ _ _)) ; first | ((with_reducible apply go_mv_int); rfl; rfl) | ((with_reducible apply go_mv_bool); rfl; rfl))
             | ((with_reducible apply go_as))
             | (((with_reducible apply go_load_own); rfl; rfl; rfl; rfl))
             | (((with_reducible apply go_fieldAddr_own); rfl; rfl; rfl))
             | (((with_reducible apply go_cmp); rfl; rfl; rfl; rfl))
             | (((with_reducible apply go_len); rfl; rfl))
             | (((with_reducible apply go_pick); rfl; rfl; rfl))
             | (((with_reducible apply go_bx_agg); rfl; rfl; (exact Nat.le_of_ble_eq_true rfl); rfl; rfl)))
           | ((with_reducible (show evOps _ _ _ _ _ _)); first
             | (with_reducible apply go_nil)
             | ((with_reducible apply go_run); rfl; rfl)
             | ((with_reducible apply go_pass); rfl; rfl; rfl)
             | (((with_reducible apply go_guard); rfl) <;> (intro h; simp only [h, Bool.not_true, Bool.not_false]; (try with_reducible (refine ⟨rfl, ?_⟩)); try simp only [decide_eq_true_eq, decide_eq_false_iff_not, Bool.not_eq_true', Bool.not_eq_false', Bool.not_true, Bool.not_false] at h; try exact absurd trivial h)))
           | ((with_reducible (show evG _ _ _ _ _)); first
             | (with_reducible apply go_seq)
             | (with_reducible apply go_region)
             | ((with_reducible apply go_cond_t); rfl; rfl)
             | (((with_reducible apply go_cond); rfl) <;> (intro h; simp only [h]; try simp only [decide_eq_true_eq, decide_eq_false_iff_not, Bool.not_eq_true', Bool.not_eq_false', Bool.not_true, Bool.not_false] at h; try exact absurd trivial h))
             | (with_reducible apply go_ret)
             | (with_reducible apply go_skipc)
             | (with_reducible apply go_block))
           | (with_reducible apply go_kseq)
           | (with_reducible apply go_kseq_ret)
           | ((with_reducible apply end_bool); rfl)
  · simp only [slightE, decide_eq_false (show ¬ g.borings.length ≤ 22 by omega), Bool.and_false, Bool.false_and]
  rotate_left
  · simp only [slightE, decide_eq_false (show ¬ g.soils.length ≤ 10 by omega), Bool.false_and]
  refine go_count g.soils.length (fun i => ⟨[(3, .int .i64 i), (1, .op 0 0 0)], [(0, ⟨2, true, [encGround g]⟩)], 32, 79⟩) (fun i => ∀ j (hj : j < i) (hj' : j < g.soils.length), g.soils[j].name.size ≤ 50)
    (entails_eq (k := 0) (ns := []) (ks := [3, 1]) [(0, 0)] rfl (by simp) rfl) (by omega) ?_
  intro i hi hC
  repeat' first
           | (with_reducible apply go_op)
           | (with_reducible apply go_next)
           | ((with_reducible (show evOp _ _ _ _ _ _)); first
             | ((with_reducible (show evOp _ (.move _) _ _ _ _)) ; first | ((with_reducible apply go_mv_int); rfl; rfl) | ((with_reducible apply go_mv_bool); rfl; rfl))
             | ((with_reducible apply go_as))
             | ((with_reducible (show evOp _ (.load _ _) _ _ _ _)) ; first | ((with_reducible apply go_load); rfl; rfl; rfl) | ((with_reducible apply go_load_own); rfl; rfl; rfl; rfl))
             | ((with_reducible (show evOp _ (.fieldAddr _ _ _) _ _ _ _)) ; first | ((with_reducible apply go_fieldAddr); rfl; rfl) | ((with_reducible apply go_fieldAddr_own); rfl; rfl; rfl))
             | (((with_reducible apply go_index); rfl; rfl; (intro; rfl); rfl; omega; intro hlt))
             | ((with_reducible (show evOp _ (.binOp _ _ _ _ _) _ _ _ _)) ; first | ((with_reducible apply go_cmp); rfl; rfl; rfl; rfl) | ((with_reducible apply go_add); rfl; rfl; rfl; omega))
             | ((with_reducible (show evOp _ (.call _) _ _ _ _)) ; first | ((with_reducible apply go_len); rfl; rfl) | ((with_reducible apply go_len_str); rfl; rfl)))
           | ((with_reducible (show evOps _ _ _ _ _ _)); first
             | (with_reducible apply go_nil))
           | ((with_reducible (show evG _ _ _ _ _)); first
             | (with_reducible apply go_seq)
             | (with_reducible apply go_region)
             | (((with_reducible apply go_cond); rfl) <;> (intro h; simp only [h]; try simp only [decide_eq_true_eq, decide_eq_false_iff_not, Bool.not_eq_true', Bool.not_eq_false', Bool.not_true, Bool.not_false] at h; try exact absurd trivial h))
             | (with_reducible apply go_ret)
             | (with_reducible apply go_skipc)
             | (with_reducible apply go_block)
             | (with_reducible apply go_exit))
           | (with_reducible apply go_kseq)
           | (with_reducible apply go_kseq_ret)
           | (with_reducible apply go_kblock)
           | (with_reducible apply go_kblock_ret)
           | (with_reducible apply go_kblock_exit)
           | (with_reducible apply go_kseq_exit)
           | ((with_reducible apply end_bool); rfl)
  all_goals try simp only [Int.toNat_natCast] at *
  · have h2 : i < g.soils.length := by omega
    exact slight_soil h2 (by omega)
  · have h2 : i < g.soils.length := by omega
    refine ⟨h2, fun j hj hj' => ?_, entails_eq (k := 0) (ns := []) (ks := [3, 1]) [(0, 0)] rfl (by simp) rfl⟩
    rcases Nat.lt_succ_iff_lt_or_eq.1 hj with h' | rfl
    · exact hC j h' hj'
    · omega
  have hS : ∀ j (hj : j < g.soils.length), g.soils[j].name.size ≤ 50 := fun j hj => hC j (by omega) hj
  refine go_count g.borings.length (fun i => ⟨[(4, .int .i64 i), (1, .op 0 0 0)], [(0, ⟨2, true, [encGround g]⟩)], 32, 79⟩) (fun i => ∀ j (hj : j < i) (hj' : j < g.borings.length), slightB g.borings[j] = true)
    (entails_eq (k := 0) (ns := []) (ks := [4, 1]) [(0, 0)] rfl (by simp) rfl) (by omega) ?_
  clear hC hi h
  clear i
  intro i hi hC
  repeat' first
           | (with_reducible apply go_op)
           | (with_reducible apply go_next)
           | ((with_reducible (show evOp _ _ _ _ _ _)); first
             | ((with_reducible (show evOp _ (.move _) _ _ _ _)) ; first | ((with_reducible apply go_mv_int); rfl; rfl) | ((with_reducible apply go_mv_bool); rfl; rfl))
             | ((with_reducible apply go_as))
             | ((with_reducible (show evOp _ (.load _ _) _ _ _ _)) ; first | ((with_reducible apply go_load); rfl; rfl; rfl) | ((with_reducible apply go_load_own); rfl; rfl; rfl; rfl))
             | ((with_reducible (show evOp _ (.fieldAddr _ _ _) _ _ _ _)) ; first | ((with_reducible apply go_fieldAddr); rfl; rfl) | ((with_reducible apply go_fieldAddr_own); rfl; rfl; rfl))
             | (((with_reducible apply go_index); rfl; rfl; (intro; rfl); rfl; omega; intro hlt))
             | (((with_reducible apply go_cmp); rfl; rfl; rfl; rfl))
             | ((with_reducible (show evOp _ (.call _) _ _ _ _)) ; first | ((with_reducible apply go_len); rfl; rfl) | ((with_reducible apply go_len_str); rfl; rfl))
             | (((with_reducible apply go_pick); rfl; rfl; rfl)))
           | ((with_reducible (show evOps _ _ _ _ _ _)); first
             | (with_reducible apply go_nil)
             | ((with_reducible apply go_run); rfl; rfl)
             | ((with_reducible apply go_pass); rfl; rfl; rfl)
             | (((with_reducible apply go_guard); rfl) <;> (intro h; simp only [h, Bool.not_true, Bool.not_false]; (try with_reducible (refine ⟨rfl, ?_⟩)); try simp only [decide_eq_true_eq, decide_eq_false_iff_not, Bool.not_eq_true', Bool.not_eq_false', Bool.not_true, Bool.not_false] at h; try exact absurd trivial h)))
           | ((with_reducible (show evG _ _ _ _ _)); first
             | (with_reducible apply go_seq)
             | (with_reducible apply go_region)
             | ((with_reducible apply go_cond_t); rfl; rfl)
             | (((with_reducible apply go_cond); rfl) <;> (intro h; simp only [h]; try simp only [decide_eq_true_eq, decide_eq_false_iff_not, Bool.not_eq_true', Bool.not_eq_false', Bool.not_true, Bool.not_false] at h; try exact absurd trivial h))
             | (with_reducible apply go_ret)
             | (with_reducible apply go_skipc)
             | (with_reducible apply go_block)
             | (with_reducible apply go_exit))
           | (with_reducible apply go_kseq)
           | (with_reducible apply go_kseq_ret)
           | (with_reducible apply go_kblock_ret)
           | (with_reducible apply go_kblock_exit)
           | (with_reducible apply go_kseq_exit)
           | ((with_reducible apply end_bool); rfl)
  all_goals try simp only [Int.toNat_natCast] at *
  · have h2 : i < g.borings.length := by omega
    exact slight_bor h2 (slightB_no (.inr (by omega)))
  rotate_left
  · have h2 : i < g.borings.length := by omega
    exact slight_bor h2 (slightB_no (.inl (by omega)))
  · exact slight_yes (by omega) (by omega) hS fun j hj => hC j (by omega) hj
  have h2 : i < g.borings.length := by omega
  refine go_count g.borings[i].layers.length (fun j => ⟨[(5, .int .i64 j), (4, .int .i64 i), (1, .op 0 0 0)], [(0, ⟨2, true, [encGround g]⟩)], 32, 79⟩) (fun j => ∀ k (hk : k < j) (hk' : k < g.borings[i].layers.length), g.borings[i].layers[k].soil.size ≤ 50)
    (entails_eq (k := 0) (ns := []) (ks := [5, 4, 1]) [(0, 0)] rfl (by simp) rfl) (by omega) ?_
  intro j hj hC2
  repeat' first
           | (with_reducible apply go_op)
           | (with_reducible apply go_next)
           | ((with_reducible (show evOp _ _ _ _ _ _)); first
             | ((with_reducible (show evOp _ (.move _) _ _ _ _)) ; first | ((with_reducible apply go_mv_int); rfl; rfl) | ((with_reducible apply go_mv_bool); rfl; rfl))
             | ((with_reducible apply go_as))
             | ((with_reducible (show evOp _ (.load _ _) _ _ _ _)) ; first | ((with_reducible apply go_load); rfl; rfl; rfl) | ((with_reducible apply go_load_own); rfl; rfl; rfl; rfl))
             | ((with_reducible (show evOp _ (.fieldAddr _ _ _) _ _ _ _)) ; first | ((with_reducible apply go_fieldAddr); rfl; rfl) | ((with_reducible apply go_fieldAddr_own); rfl; rfl; rfl))
             | (((with_reducible apply go_index); rfl; rfl; (intro; rfl); rfl; omega; intro hlt))
             | ((with_reducible (show evOp _ (.binOp _ _ _ _ _) _ _ _ _)) ; first | ((with_reducible apply go_cmp); rfl; rfl; rfl; rfl) | ((with_reducible apply go_add); rfl; rfl; rfl; omega))
             | ((with_reducible (show evOp _ (.call _) _ _ _ _)) ; first | ((with_reducible apply go_len); rfl; rfl) | ((with_reducible apply go_len_str); rfl; rfl)))
           | ((with_reducible (show evOps _ _ _ _ _ _)); first
             | (with_reducible apply go_nil))
           | ((with_reducible (show evG _ _ _ _ _)); first
             | (with_reducible apply go_seq)
             | (with_reducible apply go_region)
             | (((with_reducible apply go_cond); rfl) <;> (intro h; simp only [h]; try simp only [decide_eq_true_eq, decide_eq_false_iff_not, Bool.not_eq_true', Bool.not_eq_false', Bool.not_true, Bool.not_false] at h; try exact absurd trivial h))
             | (with_reducible apply go_ret)
             | (with_reducible apply go_skipc)
             | (with_reducible apply go_block)
             | (with_reducible apply go_exit))
           | (with_reducible apply go_kseq)
           | (with_reducible apply go_kseq_ret)
           | (with_reducible apply go_kblock)
           | (with_reducible apply go_kblock_ret)
           | (with_reducible apply go_kblock_exit)
           | (with_reducible apply go_kseq_exit)
           | ((with_reducible apply end_bool); rfl)
  all_goals try simp only [Int.toNat_natCast] at *
  · have h3 : j < g.borings[i].layers.length := by omega
    exact slight_bor h2 (slightB_lay h3 (by omega))
  · refine ⟨by omega, fun k hk hk' => ?_, entails_eq (k := 0) (ns := []) (ks := [5, 4, 1]) [(0, 0)] rfl (by simp) rfl⟩
    rcases Nat.lt_succ_iff_lt_or_eq.1 hk with h' | rfl
    · exact hC2 k h' hk'
    · omega
  · refine ⟨h2, fun k hk hk' => ?_, entails_eq (k := 0) (ns := []) (ks := [4, 1]) [(0, 0)] rfl (by simp) rfl⟩
    rcases Nat.lt_succ_iff_lt_or_eq.1 hk with h' | rfl
    · exact hC k h' hk'
    · exact slightB_yes (by omega) (by omega) fun k hk => hC2 k (by omega) hk
end Go.Pv.Soil

open Go Go.Proofs Go.Pv
set_option maxHeartbeats 1000000
set_option maxRecDepth 100000
set_option linter.unusedSimpArgs false
set_option linter.unusedVariables false
namespace Go.Pv.Soil

def okB (o : Option Outc) : Bool := match o with | some (.ret (.bool b)) => b | _ => false
theorem okB_ok {f : FuncId} {ds : List D} {n k : Nat} (h : okB (runF Try.prog n k f ds) = true) : Contract Try.prog f ds (.ret (.bool true)) := by
  refine runF_ok mix k f ds _ (fuel := n) ?_
  unfold okB at h
  split at h
  · rename_i b hb; rw [hb, h]
  · cases h

/-- The document's examples hold: worked out. -/
theorem c18 : Contract Try.prog 18 [] (.ret (.bool true)) := okB_ok (n := 1000) (k := 20) (by kernel_rfl)

theorem slight_len {g : Ground} (h : slightE g = true) : g.soils.length ≤ 10 ∧ g.borings.length ≤ 22 := by
  simp only [slightE, Bool.and_eq_true, decide_eq_true_eq] at h
  exact ⟨h.1.1.1, h.1.1.2⟩

theorem c3 (g : Ground) : Contract Try.prog 3 [.agg (encGround g)] (.ret (.bool true)) := by
  cases hs : slightE g
  · have h19 : Contract Try.prog 19 [.agg (encGround g)] (.ret (.bool false)) := hs ▸ c19 g
    refine contract_of mix Try.func3 rfl rfl (by rw [Try.ntmps3]; exact Nat.le_of_ble_eq_true rfl) ?_; rw [Try.results3, Try.ntmps3]; simp only [argsE, Nat.reduceAdd]
    repeat' first
           | (with_reducible apply go_op)
           | (with_reducible apply go_next)
           | ((with_reducible (show evOp _ _ _ _ _ _)); first
             | (((with_reducible apply go_mv_bool); rfl; rfl))
             | ((with_reducible apply go_as))
             | (((with_reducible apply go_load_own); rfl; rfl; rfl; rfl))
             | ((with_reducible (show evOp _ (.call _) _ _ _ _)) ; first | ((with_reducible apply go_fn_bool); rfl; (exact c18); rfl) | ((with_reducible apply go_fn_bool); rfl; (exact h19); rfl))
             | (((with_reducible apply go_not); rfl; rfl))
             | (((with_reducible apply go_pick); rfl; rfl; rfl))
             | (((with_reducible apply go_bx_agg); rfl; rfl; (exact Nat.le_of_ble_eq_true rfl); rfl; rfl)))
           | ((with_reducible (show evOps _ _ _ _ _ _)); first
             | (with_reducible apply go_nil)
             | ((with_reducible apply go_pass); rfl; rfl; rfl)
             | ((with_reducible apply go_skip); rfl; rfl)
             | ((with_reducible apply go_pre); rfl)
             | (with_reducible apply go_pre_nil)
             | ((with_reducible apply go_suf); rfl)
             | (with_reducible apply go_suf_nil))
           | ((with_reducible (show evG _ _ _ _ _)); first
             | (with_reducible apply go_seq)
             | (with_reducible apply go_region)
             | ((with_reducible apply go_cond_f); rfl; rfl)
             | ((with_reducible apply go_order); kernel_rfl; rfl)
             | (with_reducible apply go_ret)
             | (with_reducible apply go_skipc))
           | (with_reducible apply go_kseq)
           | (with_reducible apply go_ksuf)
           | ((with_reducible apply end_bool); rfl)
           | (with_reducible rfl)
  · have h19 : Contract Try.prog 19 [.agg (encGround g)] (.ret (.bool true)) := hs ▸ c19 g
    obtain ⟨hl, hb⟩ := slight_len hs
    refine contract_of mix Try.func3 rfl rfl (by rw [Try.ntmps3]; exact Nat.le_of_ble_eq_true rfl) ?_; rw [Try.results3, Try.ntmps3]; simp only [argsE, Nat.reduceAdd]
    repeat' first
           | (with_reducible apply go_op)
           | (with_reducible apply go_next)
           | ((with_reducible (show evOp _ _ _ _ _ _)); first
             | (((with_reducible apply go_mv_bool); rfl; rfl))
             | ((with_reducible apply go_as))
             | (((with_reducible apply go_load_own); rfl; rfl; rfl; rfl))
             | (((with_reducible apply go_fieldAddr_own); rfl; rfl; rfl))
             | (((with_reducible apply go_cmp); rfl; rfl; rfl; rfl))
             | ((with_reducible (show evOp _ (.call _) _ _ _ _)) ; first | ((with_reducible apply go_fn_bool); rfl; (exact c18); rfl) | ((with_reducible apply go_fn_bool); rfl; (exact h19); rfl) | ((with_reducible apply go_fn_int); rfl; (exact c20 g.soils (by omega)); rfl) | ((with_reducible apply go_fn_int); rfl; (exact c21 g.soils (by omega)); rfl) | ((with_reducible apply go_fn_int); rfl; (exact c22 g (by omega) (by omega)); rfl) | ((with_reducible apply go_fn_int); rfl; (exact c23 g (by omega) (by omega)); rfl))
             | (((with_reducible apply go_not); rfl; rfl))
             | (((with_reducible apply go_pick); rfl; rfl; rfl))
             | (((with_reducible apply go_bx_agg); rfl; rfl; (exact Nat.le_of_ble_eq_true rfl); rfl; rfl)))
           | ((with_reducible (show evOps _ _ _ _ _ _)); first
             | (with_reducible apply go_nil)
             | ((with_reducible apply go_run); rfl; rfl)
             | (((with_reducible apply go_guard); rfl) <;> (intro h; simp only [h, Bool.not_true, Bool.not_false]; (try with_reducible (refine ⟨rfl, ?_⟩)); try simp only [decide_eq_true_eq, decide_eq_false_iff_not, Bool.not_eq_true', Bool.not_eq_false', Bool.not_true, Bool.not_false] at h; try exact absurd trivial h))
             | ((with_reducible apply go_pre); rfl)
             | (with_reducible apply go_pre_nil)
             | ((with_reducible apply go_suf); rfl)
             | (with_reducible apply go_suf_nil))
           | ((with_reducible (show evG _ _ _ _ _)); first
             | (with_reducible apply go_seq)
             | (with_reducible apply go_region)
             | ((with_reducible apply go_cond_f); rfl; rfl)
             | ((with_reducible apply go_order); kernel_rfl; rfl)
             | (with_reducible apply go_ret)
             | (with_reducible apply go_skipc))
           | (with_reducible apply go_kseq)
           | (with_reducible apply go_ksuf)
           | ((with_reducible apply end_bool); rfl)
    all_goals first | exact absurd trivial (by assumption) | simp
end Go.Pv.Soil

open Go Go.Proofs Go.Pv
set_option maxHeartbeats 4000000
set_option maxRecDepth 100000
set_option linter.unusedSimpArgs false
set_option linter.unusedVariables false
namespace Go.Pv.Soil
theorem scalIntU : ScalF encInt 1 := fun _ => ⟨rfl, rfl⟩
theorem c70u (l : List Int) (hl : l.length ≤ 1000000000) : Contract Try.prog 70 [.sl (l.map encInt)] (.ret (.fr 1 (l.map encInt))) := by
  refine contract_of mix Try.func70 rfl rfl (by rw [Try.ntmps70]; exact Nat.le_of_ble_eq_true rfl) ?_; rw [Try.results70, Try.ntmps70]; simp only [argsE, Nat.reduceAdd]
  repeat' first
           | (with_reducible apply go_op)
           | (with_reducible apply go_next)
           | ((with_reducible (show evOp _ _ _ _ _ _)); first
             | ((with_reducible (show evOp _ (.move _) _ _ _ _)) ; first | ((with_reducible apply go_mv_sl); rfl; rfl) | ((with_reducible apply go_mv_nilsl); rfl; rfl))
             | ((with_reducible apply go_as))
             | (((with_reducible apply go_bs0); rfl)))
           | ((with_reducible (show evOps _ _ _ _ _ _)); first
             | (with_reducible apply go_nil))
           | ((with_reducible (show evG _ _ _ _ _)); first
             | (with_reducible apply go_seq)
             | (with_reducible apply go_region))
           | (with_reducible apply go_kseq)
  refine go_app_sl (f := encInt) scalIntU rfl rfl rfl (fun _ => rfl) (by kernel_rfl) (by kernel_rfl) hl rfl ?_
  repeat' first
           | (with_reducible apply go_op)
           | (with_reducible apply go_next)
           | ((with_reducible (show evOp _ _ _ _ _ _)); first
             | (((with_reducible apply go_mv_os); rfl; rfl))
             | ((with_reducible apply go_as)))
           | ((with_reducible (show evOps _ _ _ _ _ _)); first
             | (with_reducible apply go_nil))
           | ((with_reducible (show evG _ _ _ _ _)); first
             | (with_reducible apply go_ret))
           | (with_reducible apply go_kseq)
  exact end_frn rfl rfl rfl rfl
theorem c_ruleErr (num den least : Int) : Contract Try.prog 123 [.agg (encRule num den least)] (.ret (.int .i64 (if ruleOK num den least then 0 else 2))) := by
  refine contract_of mix Try.func123 rfl rfl (by rw [Try.ntmps123]; exact Nat.le_of_ble_eq_true rfl) ?_; rw [Try.results123, Try.ntmps123]; simp only [argsE, Nat.reduceAdd]
  repeat' first
           | (with_reducible apply go_op)
           | (with_reducible apply go_next)
           | ((with_reducible (show evOp _ _ _ _ _ _)); first
             | ((with_reducible (show evOp _ (.move _) _ _ _ _)) ; first | ((with_reducible apply go_mv_int); rfl; rfl) | ((with_reducible apply go_mv_bool); rfl; rfl))
             | ((with_reducible apply go_as))
             | (((with_reducible apply go_load_own); rfl; rfl; rfl; rfl))
             | (((with_reducible apply go_fieldAddr_own); rfl; rfl; rfl))
             | (((with_reducible apply go_fn_bool); rfl; (exact c108 _ _ _); rfl))
             | (((with_reducible apply go_not); rfl; rfl))
             | (((with_reducible apply go_pick); rfl; rfl; rfl))
             | (((with_reducible apply go_bx_agg); rfl; rfl; (exact Nat.le_of_ble_eq_true rfl); rfl; rfl)))
           | ((with_reducible (show evOps _ _ _ _ _ _)); first
             | (with_reducible apply go_nil)
             | ((with_reducible apply go_run); rfl; rfl)
             | ((with_reducible apply go_pass); rfl; rfl; rfl)
             | (((with_reducible apply go_guard); rfl) <;> (intro h; simp only [h, Bool.not_true, Bool.not_false]; (try with_reducible (refine ⟨rfl, ?_⟩)); try simp only [decide_eq_true_eq, decide_eq_false_iff_not, Bool.not_eq_true', Bool.not_eq_false', Bool.not_true, Bool.not_false] at h; try exact absurd trivial h)))
           | ((with_reducible (show evG _ _ _ _ _)); first
             | (with_reducible apply go_seq)
             | (with_reducible apply go_region)
             | ((with_reducible apply go_cond_t); rfl; rfl)
             | (((with_reducible apply go_cond); rfl) <;> (intro h; simp only [h]; try simp only [decide_eq_true_eq, decide_eq_false_iff_not, Bool.not_eq_true', Bool.not_eq_false', Bool.not_true, Bool.not_false] at h; try exact absurd trivial h))
             | (with_reducible apply go_ret)
             | (with_reducible apply go_skipc))
           | (with_reducible apply go_kseq)
           | (with_reducible apply go_kseq_ret)
           | ((with_reducible apply end_int); rfl)
  all_goals (unfold ruleOK; first | (rw [if_pos (by simp; omega)]; done) | (rw [if_neg (by simp; omega)]; done) | trace_state)
theorem c_inV (n : Int) : Contract Try.prog 125 [.int .i64 n] (.ret (.bool (!inV n))) := by
  refine contract_of mix Try.func125 rfl rfl (by rw [Try.ntmps125]; exact Nat.le_of_ble_eq_true rfl) ?_; rw [Try.results125, Try.ntmps125]; simp only [argsE, Nat.reduceAdd]
  repeat' first
           | (with_reducible apply go_op)
           | (with_reducible apply go_next)
           | ((with_reducible (show evOp _ _ _ _ _ _)); first
             | ((with_reducible (show evOp _ (.move _) _ _ _ _)) ; first | ((with_reducible apply go_mv_int); rfl; rfl) | ((with_reducible apply go_mv_bool); rfl; rfl))
             | ((with_reducible apply go_as))
             | (((with_reducible apply go_fn_bool); rfl; (exact c108 _ _ _); rfl))
             | (((with_reducible apply go_not); rfl; rfl)))
           | ((with_reducible (show evOps _ _ _ _ _ _)); first
             | (with_reducible apply go_nil))
           | ((with_reducible (show evG _ _ _ _ _)); first
             | (with_reducible apply go_seq)
             | (with_reducible apply go_region)
             | (with_reducible apply go_ret))
           | (with_reducible apply go_kseq)
           | ((with_reducible apply end_bool); rfl)
  all_goals (unfold inV; first | rfl | trace_state)
/-- Values in range are in range one by one. -/
theorem any_not (l : List Int) : (l.any fun n => !inV n) = !l.all inV := by
  rw [List.not_all_eq_any_not]
theorem c_Ranked (l : List Int) (hl : l.length ≤ 65) (num den least : Int) :
    Contract Try.prog 69 [.sl (l.map encInt), .agg (encRule num den least)] (.ret (.tup [.int .i64 (rankedR l num den least).1, .int .i64 (rankedR l num den least).2])) := by
  unfold rankedR
  cases hr : ruleOK num den least with
  | false =>
    rw [if_pos rfl]
    have hc := c_ruleErr num den least
    rw [hr, if_neg (by simp)] at hc
    refine contract_of mix Try.func69 rfl rfl (by rw [Try.ntmps69]; exact Nat.le_of_ble_eq_true rfl) ?_; rw [Try.results69, Try.ntmps69]; simp only [argsE, Nat.reduceAdd]
    repeat' first
           | (with_reducible apply go_op)
           | (with_reducible apply go_next)
           | ((with_reducible (show evOp _ _ _ _ _ _)); first
             | (((with_reducible apply go_mv_int); rfl; rfl))
             | ((with_reducible apply go_as))
             | (((with_reducible apply go_ld_agg); rfl; rfl; rfl; rfl))
             | (((with_reducible apply go_cmp); rfl; rfl; rfl; rfl))
             | (((with_reducible apply go_fn_int); rfl; (exact hc); rfl))
             | (((with_reducible apply go_bx_agg); rfl; rfl; (exact Nat.le_of_ble_eq_true rfl); rfl; rfl)))
           | ((with_reducible (show evOps _ _ _ _ _ _)); first
             | (with_reducible apply go_nil))
           | ((with_reducible (show evG _ _ _ _ _)); first
             | (with_reducible apply go_seq)
             | (with_reducible apply go_region)
             | ((with_reducible apply go_cond_t); rfl; rfl)
             | (with_reducible apply go_ret))
           | (with_reducible apply go_kseq)
           | (with_reducible apply go_kseq_ret)
           | ((with_reducible apply end_t2); rfl; rfl; rfl; rfl)
    all_goals first | rfl | (exfalso; omega) | trace_state
  | true =>
    rw [if_neg (by simp)]
    have hc := c_ruleErr num den least
    rw [hr, if_pos rfl] at hc
    by_cases h60 : 60 < l.length
    · rw [if_pos h60]
      refine contract_of mix Try.func69 rfl rfl (by rw [Try.ntmps69]; exact Nat.le_of_ble_eq_true rfl) ?_; rw [Try.results69, Try.ntmps69]; simp only [argsE, Nat.reduceAdd]
      repeat' first
           | (with_reducible apply go_op)
           | (with_reducible apply go_next)
           | ((with_reducible (show evOp _ _ _ _ _ _)); first
             | ((with_reducible (show evOp _ (.move _) _ _ _ _)) ; first | ((with_reducible apply go_mv_int); rfl; rfl) | ((with_reducible apply go_mv_sl); rfl; rfl))
             | ((with_reducible apply go_as))
             | (((with_reducible apply go_ld_agg); rfl; rfl; rfl; rfl))
             | (((with_reducible apply go_cmp); rfl; rfl; rfl; rfl))
             | ((with_reducible (show evOp _ (.call _) _ _ _ _)) ; first | ((with_reducible apply go_len); rfl; rfl) | ((with_reducible apply go_fn_int); rfl; (exact hc); rfl))
             | (((with_reducible apply go_bx_agg); rfl; rfl; (exact Nat.le_of_ble_eq_true rfl); rfl; rfl)))
           | ((with_reducible (show evOps _ _ _ _ _ _)); first
             | (with_reducible apply go_nil))
           | ((with_reducible (show evG _ _ _ _ _)); first
             | (with_reducible apply go_seq)
             | (with_reducible apply go_region)
             | ((with_reducible apply go_cond_f); rfl; rfl)
             | (((with_reducible apply go_cond); rfl) <;> (intro h; simp only [h]; try simp only [decide_eq_true_eq, decide_eq_false_iff_not, Bool.not_eq_true', Bool.not_eq_false', Bool.not_true, Bool.not_false] at h; try exact absurd trivial h))
             | (with_reducible apply go_ret)
             | (with_reducible apply go_skipc))
           | (with_reducible apply go_kseq)
           | (with_reducible apply go_kseq_ret)
           | ((with_reducible apply end_t2); rfl; rfl; rfl; rfl)
      all_goals first | rfl | (exfalso; omega) | trace_state
    · rw [if_neg h60]
      by_cases hv : l.all inV = false
      · rw [if_pos hv]
        refine contract_of mix Try.func69 rfl rfl (by rw [Try.ntmps69]; exact Nat.le_of_ble_eq_true rfl) ?_; rw [Try.results69, Try.ntmps69]; simp only [argsE, Nat.reduceAdd]
        repeat' first
           | (with_reducible apply go_op)
           | (with_reducible apply go_next)
           | ((with_reducible (show evOp _ _ _ _ _ _)); first
             | ((with_reducible (show evOp _ (.move _) _ _ _ _)) ; first | ((with_reducible apply go_mv_int); rfl; rfl) | ((with_reducible apply go_mv_sl); rfl; rfl))
             | ((with_reducible apply go_as))
             | (((with_reducible apply go_ld_agg); rfl; rfl; rfl; rfl))
             | (((with_reducible apply go_cmp); rfl; rfl; rfl; rfl))
             | ((with_reducible (show evOp _ (.call _) _ _ _ _)) ; first | ((with_reducible apply go_len); rfl; rfl) | ((with_reducible apply go_fn_int); rfl; (exact hc); rfl))
             | (((with_reducible apply go_bx_agg); rfl; rfl; (exact Nat.le_of_ble_eq_true rfl); rfl; rfl)))
           | ((with_reducible (show evOps _ _ _ _ _ _)); first
             | (with_reducible apply go_nil))
           | ((with_reducible (show evG _ _ _ _ _)); first
             | (with_reducible apply go_seq)
             | (with_reducible apply go_region)
             | ((with_reducible apply go_cond_f); rfl; rfl)
             | (((with_reducible apply go_cond); rfl) <;> (intro h; simp only [h]; try simp only [decide_eq_true_eq, decide_eq_false_iff_not, Bool.not_eq_true', Bool.not_eq_false', Bool.not_true, Bool.not_false] at h; try exact absurd trivial h))
             | (with_reducible apply go_ret)
             | (with_reducible apply go_skipc))
           | (with_reducible apply go_kseq)
           | (with_reducible apply go_kseq_ret)
           | ((with_reducible apply end_t2); rfl; rfl; rfl; rfl)
        all_goals try (exfalso; omega)
        refine go_fn_bool (args' := [.sl (l.map encInt), .clo (.func 125) [] []]) rfl (c124 l (by omega) 125 (fun n => !inV n) fun x _ => c_inV x) rfl ?_
        rw [any_not, hv]
        repeat' first
           | (with_reducible apply go_op)
           | (with_reducible apply go_next)
           | ((with_reducible (show evOp _ _ _ _ _ _)); first
             | (((with_reducible apply go_mv_int); rfl; rfl))
             | ((with_reducible apply go_as)))
           | ((with_reducible (show evOps _ _ _ _ _ _)); first
             | (with_reducible apply go_nil))
           | ((with_reducible (show evG _ _ _ _ _)); first
             | (with_reducible apply go_seq)
             | (with_reducible apply go_region)
             | ((with_reducible apply go_cond_t); rfl; rfl)
             | (with_reducible apply go_ret))
           | (with_reducible apply go_kseq)
           | (with_reducible apply go_kseq_ret)
           | ((with_reducible apply end_t2); rfl; rfl; rfl; rfl)
        all_goals first | rfl | trace_state
      · rw [if_neg hv]
        have hv' : l.all inV = true := by simpa using hv
        have hrule : (1 ≤ den ∧ den ≤ 1000) ∧ (1 ≤ num ∧ num ≤ den) ∧ 1 ≤ least ∧ least ≤ 60 := of_decide_eq_true hr
        by_cases hfew : (l.length : Int) < least
        · rw [if_pos hfew]
          refine contract_of mix Try.func69 rfl rfl (by rw [Try.ntmps69]; exact Nat.le_of_ble_eq_true rfl) ?_; rw [Try.results69, Try.ntmps69]; simp only [argsE, Nat.reduceAdd]
          repeat' first
           | (with_reducible apply go_op)
           | (with_reducible apply go_next)
           | ((with_reducible (show evOp _ _ _ _ _ _)); first
             | ((with_reducible (show evOp _ (.move _) _ _ _ _)) ; first | ((with_reducible apply go_mv_int); rfl; rfl) | ((with_reducible apply go_mv_sl); rfl; rfl))
             | ((with_reducible apply go_as))
             | (((with_reducible apply go_ld_agg); rfl; rfl; rfl; rfl))
             | (((with_reducible apply go_cmp); rfl; rfl; rfl; rfl))
             | ((with_reducible (show evOp _ (.call _) _ _ _ _)) ; first | ((with_reducible apply go_len); rfl; rfl) | ((with_reducible apply go_fn_int); rfl; (exact hc); rfl))
             | (((with_reducible apply go_bx_agg); rfl; rfl; (exact Nat.le_of_ble_eq_true rfl); rfl; rfl)))
           | ((with_reducible (show evOps _ _ _ _ _ _)); first
             | (with_reducible apply go_nil))
           | ((with_reducible (show evG _ _ _ _ _)); first
             | (with_reducible apply go_seq)
             | (with_reducible apply go_region)
             | ((with_reducible apply go_cond_f); rfl; rfl)
             | (((with_reducible apply go_cond); rfl) <;> (intro h; simp only [h]; try simp only [decide_eq_true_eq, decide_eq_false_iff_not, Bool.not_eq_true', Bool.not_eq_false', Bool.not_true, Bool.not_false] at h; try exact absurd trivial h))
             | (with_reducible apply go_ret)
             | (with_reducible apply go_skipc))
           | (with_reducible apply go_kseq)
           | (with_reducible apply go_kseq_ret)
           | ((with_reducible apply end_t2); rfl; rfl; rfl; rfl)
          all_goals try (exfalso; omega)
          refine go_fn_bool (args' := [.sl (l.map encInt), .clo (.func 125) [] []]) rfl (c124 l (by omega) 125 (fun n => !inV n) fun x _ => c_inV x) rfl ?_
          rw [any_not, hv']
          repeat' first
           | (with_reducible apply go_op)
           | (with_reducible apply go_next)
           | ((with_reducible (show evOp _ _ _ _ _ _)); first
             | ((with_reducible (show evOp _ (.move _) _ _ _ _)) ; first | ((with_reducible apply go_mv_int); rfl; rfl) | ((with_reducible apply go_mv_sl); rfl; rfl))
             | ((with_reducible apply go_as))
             | (((with_reducible apply go_ld_agg); rfl; rfl; rfl; rfl))
             | (((with_reducible apply go_fn_plain); rfl; (exact c_few l num den least (by omega) hfew); rfl; (exact Nat.le_of_ble_eq_true rfl); rfl))
             | (((with_reducible apply go_extract); rfl; rfl)))
           | ((with_reducible (show evOps _ _ _ _ _ _)); first
             | (with_reducible apply go_nil))
           | ((with_reducible (show evG _ _ _ _ _)); first
             | (with_reducible apply go_seq)
             | (with_reducible apply go_region)
             | ((with_reducible apply go_cond_f); rfl; rfl)
             | (with_reducible apply go_ret)
             | (with_reducible apply go_skipc))
           | (with_reducible apply go_kseq)
           | ((with_reducible apply end_t2); rfl; rfl; rfl; rfl)
          all_goals first | rfl | trace_state
        · rw [if_neg hfew]
          refine contract_of mix Try.func69 rfl rfl (by rw [Try.ntmps69]; exact Nat.le_of_ble_eq_true rfl) ?_; rw [Try.results69, Try.ntmps69]; simp only [argsE, Nat.reduceAdd]
          repeat' first
           | (with_reducible apply go_op)
           | (with_reducible apply go_next)
           | ((with_reducible (show evOp _ _ _ _ _ _)); first
             | ((with_reducible (show evOp _ (.move _) _ _ _ _)) ; first | ((with_reducible apply go_mv_int); rfl; rfl) | ((with_reducible apply go_mv_sl); rfl; rfl))
             | ((with_reducible apply go_as))
             | (((with_reducible apply go_ld_agg); rfl; rfl; rfl; rfl))
             | (((with_reducible apply go_cmp); rfl; rfl; rfl; rfl))
             | ((with_reducible (show evOp _ (.call _) _ _ _ _)) ; first | ((with_reducible apply go_len); rfl; rfl) | ((with_reducible apply go_fn_int); rfl; (exact hc); rfl))
             | (((with_reducible apply go_bx_agg); rfl; rfl; (exact Nat.le_of_ble_eq_true rfl); rfl; rfl)))
           | ((with_reducible (show evOps _ _ _ _ _ _)); first
             | (with_reducible apply go_nil))
           | ((with_reducible (show evG _ _ _ _ _)); first
             | (with_reducible apply go_seq)
             | (with_reducible apply go_region)
             | ((with_reducible apply go_cond_f); rfl; rfl)
             | (((with_reducible apply go_cond); rfl) <;> (intro h; simp only [h]; try simp only [decide_eq_true_eq, decide_eq_false_iff_not, Bool.not_eq_true', Bool.not_eq_false', Bool.not_true, Bool.not_false] at h; try exact absurd trivial h))
             | (with_reducible apply go_ret)
             | (with_reducible apply go_skipc))
           | (with_reducible apply go_kseq)
           | (with_reducible apply go_kseq_ret)
           | ((with_reducible apply end_t2); rfl; rfl; rfl; rfl)
          all_goals try (exfalso; omega)
          refine go_fn_bool (args' := [.sl (l.map encInt), .clo (.func 125) [] []]) rfl (c124 l (by omega) 125 (fun n => !inV n) fun x _ => c_inV x) rfl ?_
          rw [any_not, hv']
          repeat' first
           | (with_reducible apply go_op)
           | (with_reducible apply go_next)
           | ((with_reducible (show evOp _ _ _ _ _ _)); first
             | ((with_reducible (show evOp _ (.move _) _ _ _ _)) ; first | ((with_reducible apply go_mv_int); rfl; rfl) | ((with_reducible apply go_mv_sl); rfl; rfl))
             | ((with_reducible apply go_as))
             | (((with_reducible apply go_ld_agg); rfl; rfl; rfl; rfl))
             | (((with_reducible apply go_fn_plain); rfl; (exact c_ranked l num den least (by omega) (by omega) (by omega) hrule.1 hrule.2.1); rfl; (exact Nat.le_of_ble_eq_true rfl); rfl))
             | (((with_reducible apply go_extract); rfl; rfl)))
           | ((with_reducible (show evOps _ _ _ _ _ _)); first
             | (with_reducible apply go_nil))
           | ((with_reducible (show evG _ _ _ _ _)); first
             | (with_reducible apply go_seq)
             | (with_reducible apply go_region)
             | ((with_reducible apply go_cond_f); rfl; rfl)
             | (with_reducible apply go_ret)
             | (with_reducible apply go_skipc))
           | (with_reducible apply go_kseq)
           | ((with_reducible apply end_t2); rfl; rfl; rfl; rfl)
          all_goals first | rfl | trace_state
end Go.Pv.Soil

open Go Go.Proofs Go.Pv
set_option maxHeartbeats 8000000
set_option maxRecDepth 100000
set_option linter.unusedSimpArgs false
set_option linter.unusedVariables false
namespace Go.Pv.Soil
instance tintI : TInt Try.prog 3 .i64 := ⟨by kernel_rfl⟩
instance tintH : TInt Try.prog 120 .u16 := ⟨by kernel_rfl⟩
instance tarU : TArr Try.prog 121 2 1 := ⟨120, by kernel_rfl, by kernel_rfl, by decide⟩
instance tarUe : TArrE Try.prog 121 2 120 1 := ⟨by kernel_rfl, by kernel_rfl, by decide⟩
def encAt (a b : Int) : List D := [.int .u16 a, .int .u16 b]
theorem rankedR_err {l : List Int} {num den least : Int} (h : (rankedR l num den least).2 ≠ 0) : (rankedR l num den least).1 = 0 := by
  unfold rankedR at h ⊢
  repeat' split
  all_goals first | rfl | (simp_all; done) | trace_state
theorem rankedR_ok {l : List Int} {num den least : Int} (h : (rankedR l num den least).2 = 0) : ((1 ≤ den ∧ den ≤ 1000) ∧ (1 ≤ num ∧ num ≤ den) ∧ 1 ≤ least ∧ least ≤ 60) ∧ l.length ≤ 60 ∧ l.all inV = true ∧ least ≤ l.length ∧ rankedR l num den least = (rankI l num den, 0) := by
  unfold rankedR at h ⊢
  split at h
  · cases h
  split at h
  · cases h
  split at h
  · cases h
  split at h
  · cases h
  rename_i h1 h2 h3 h4
  rw [if_neg h1, if_neg h2, if_neg h3, if_neg h4]
  have h5 : ruleOK num den least = true := by simpa using h1
  exact ⟨of_decide_eq_true h5, by omega, by simpa using h3, by omega, rfl⟩
/-- Of the first values so many are at most a number. -/
def cnt (l : List Int) (v : Int) (i : Nat) : Nat := (l.take i).countP fun x => decide (x ≤ v)
def fnd (l : List Int) (v : Int) (i : Nat) : Bool := (l.take i).any fun x => decide (x = v)
theorem cnt_step {l : List Int} {v : Int} {i : Nat} (h : i < l.length) : cnt l v (i + 1) = if l[i] ≤ v then cnt l v i + 1 else cnt l v i := by
  unfold cnt
  rw [List.take_succ_eq_append_getElem h, List.countP_append, List.countP_cons, List.countP_nil]
  by_cases hc : l[i] ≤ v
  · rw [if_pos (by simpa using hc), if_pos hc]
  · rw [if_neg (by simpa using hc), if_neg hc]; rfl
theorem fnd_step {l : List Int} {v : Int} {i : Nat} (h : i < l.length) : fnd l v (i + 1) = (fnd l v i || decide (l[i] = v)) := by
  unfold fnd
  rw [List.take_succ_eq_append_getElem h, List.any_append, List.any_cons, List.any_nil, Bool.or_false]
theorem cnt_le {l : List Int} {v : Int} {i : Nat} : cnt l v i ≤ i := by
  unfold cnt
  exact Nat.le_trans List.countP_le_length (by rw [List.length_take]; omega)
theorem cnt_all {l : List Int} {v : Int} : cnt l v l.length = l.countP fun x => decide (x ≤ v) := by
  unfold cnt; rw [List.take_length]
theorem fnd_all {l : List Int} {v : Int} (h : v ∈ l) : fnd l v l.length = true := by
  unfold fnd; rw [List.take_length]; exact List.any_eq_true.2 ⟨v, h, by simp⟩
def stR (l : List Int) (v m0 : Int) (rest : List Int) (num den least a b : Int) (i c : Nat) (f : Bool) : St :=
  ⟨[(15, .int .i64 i), (14, .int .i64 c), (13, .bool f), (0, .sl (l.map encInt)), (7, .int .i64 v), (10, .os 0 0 l.length), (4, .op 1 0 0), (5, .op 2 0 0)], [(0, ⟨1, true, (m0 :: rest).map encInt⟩), (1, ⟨3, true, [encRule num den least]⟩), (2, ⟨2, true, [encAt a b]⟩)], 32, 130⟩
theorem c_ranks (l : List Int) (hl : l.length ≤ 9223372036854775807) (num den least a b : Int) (ha : 0 ≤ a ∧ a ≤ 65535) (hb : 0 ≤ b ∧ b ≤ 65535) :
    Contract Try.prog 16 [.sl (l.map encInt), .agg (encRule num den least), .agg (encAt a b)] (.ret (.bool true)) := by
  by_cases h65 : 65 < l.length
  · refine contract_of mix Try.func16 rfl rfl (by rw [Try.ntmps16]; exact Nat.le_of_ble_eq_true rfl) ?_; rw [Try.results16, Try.ntmps16]; simp only [argsE, Nat.reduceAdd]
    repeat' first
           | (with_reducible apply go_op)
           | (with_reducible apply go_next)
           | ((with_reducible (show evOp _ _ _ _ _ _)); first
             | ((with_reducible (show evOp _ (.move _) _ _ _ _)) ; first | ((with_reducible apply go_mv_bool); rfl; rfl) | ((with_reducible apply go_mv_sl); rfl; rfl))
             | ((with_reducible apply go_as))
             | (((with_reducible apply go_ld_agg); rfl; rfl; rfl; rfl))
             | (((with_reducible apply go_cmp); rfl; rfl; rfl; rfl))
             | ((with_reducible (show evOp _ (.call _) _ _ _ _)) ; first | ((with_reducible apply go_len); rfl; rfl) | ((with_reducible apply go_fn_bool); rfl; (exact c18); rfl))
             | (((with_reducible apply go_not); rfl; rfl))
             | (((with_reducible apply go_bx_agg); rfl; rfl; (exact Nat.le_of_ble_eq_true rfl); rfl; rfl)))
           | ((with_reducible (show evOps _ _ _ _ _ _)); first
             | (with_reducible apply go_nil))
           | ((with_reducible (show evG _ _ _ _ _)); first
             | (with_reducible apply go_seq)
             | (with_reducible apply go_region)
             | ((with_reducible apply go_cond_f); rfl; rfl)
             | (((with_reducible apply go_cond); rfl) <;> (intro h; simp only [h]; try simp only [decide_eq_true_eq, decide_eq_false_iff_not, Bool.not_eq_true', Bool.not_eq_false', Bool.not_true, Bool.not_false] at h; try exact absurd trivial h))
             | (with_reducible apply go_ret)
             | (with_reducible apply go_skipc))
           | (with_reducible apply go_kseq)
           | (with_reducible apply go_kseq_ret)
           | ((with_reducible apply end_bool); rfl)
           | (with_reducible rfl)
    all_goals first | rfl | (exfalso; omega) | trace_state
  · by_cases h0 : (rankedR l num den least).2 = 0
    · obtain ⟨hrule, h60, hall, hle, hR⟩ := rankedR_ok h0
      have hc := c_Ranked l (by omega) num den least
      rw [hR] at hc
      have hn : 0 < l.length := by omega
      have hk : 0 ≤ a % (l.length : Int) ∧ a % (l.length : Int) < l.length := ⟨Int.emod_nonneg _ (by omega), Int.emod_lt_of_pos _ (by omega)⟩
      have h70 := c70u (l.drop (a % (l.length : Int)).toNat) (by rw [List.length_drop]; omega)
      refine contract_of mix Try.func16 rfl rfl (by rw [Try.ntmps16]; exact Nat.le_of_ble_eq_true rfl) ?_; rw [Try.results16, Try.ntmps16]; simp only [argsE, Nat.reduceAdd]
      repeat' first
           | (with_reducible apply go_op)
           | (with_reducible apply go_next)
           | ((with_reducible (show evOp _ _ _ _ _ _)); first
             | ((with_reducible (show evOp _ (.move _) _ _ _ _)) ; first | ((with_reducible apply go_mv_int); rfl; rfl) | ((with_reducible apply go_mv_bool); rfl; rfl) | ((with_reducible apply go_mv_sl); rfl; rfl) | ((with_reducible apply go_mv_tup); rfl; rfl))
             | ((with_reducible apply go_as))
             | ((with_reducible (show evOp _ (.load _ _) _ _ _ _)) ; first | ((with_reducible apply go_ld_agg); rfl; rfl; rfl; rfl) | ((with_reducible apply go_load_own); rfl; rfl; rfl; rfl))
             | (((with_reducible apply go_index_arr); rfl; rfl; rfl; rfl; omega))
             | ((with_reducible (show evOp _ (.binOp _ _ _ _ _) _ _ _ _)) ; first | ((with_reducible apply go_cmp); rfl; rfl; rfl; rfl) | ((with_reducible apply go_rem_pos); rfl; rfl; rfl; omega))
             | ((with_reducible (show evOp _ (.call _) _ _ _ _)) ; first | ((with_reducible apply go_len); rfl; rfl) | ((with_reducible apply go_fn_bool); rfl; (exact c18); rfl) | ((with_reducible apply go_fn_plain); rfl; (exact hc); rfl; (exact Nat.le_of_ble_eq_true rfl); rfl) | ((with_reducible apply go_fn_fr); rfl; (exact h70); (exact scalIntU); rfl))
             | ((with_reducible (show evOp _ (.slice _ _ _ _ _) _ _ _ _)) ; first | ((with_reducible apply go_take_sl); rfl; rfl; (intro; rfl); rfl; omega) | ((with_reducible apply go_drop_sl); rfl; rfl; (intro; rfl); rfl; omega))
             | (((with_reducible apply go_not); rfl; rfl))
             | (((with_reducible apply go_extract); rfl; rfl))
             | (((with_reducible apply go_conv64); rfl; rfl; omega))
             | (((with_reducible apply go_pick); rfl; rfl; rfl))
             | (((with_reducible apply go_bx_agg); rfl; rfl; (exact Nat.le_of_ble_eq_true rfl); rfl; rfl)))
           | ((with_reducible (show evOps _ _ _ _ _ _)); first
             | (with_reducible apply go_nil)
             | ((with_reducible apply go_run); rfl; rfl)
             | ((with_reducible apply go_pass); rfl; rfl; rfl)
             | (((with_reducible apply go_guard); rfl) <;> (intro h; simp only [h, Bool.not_true, Bool.not_false]; (try with_reducible (refine ⟨rfl, ?_⟩)); try simp only [decide_eq_true_eq, decide_eq_false_iff_not, Bool.not_eq_true', Bool.not_eq_false', Bool.not_true, Bool.not_false] at h; try exact absurd trivial h))
             | ((with_reducible apply go_pre); rfl)
             | ((with_reducible apply go_pre_stop); rfl)
             | ((with_reducible apply go_suf); rfl)
             | ((with_reducible apply go_suf_stop); rfl))
           | ((with_reducible (show evG _ _ _ _ _)); first
             | (with_reducible apply go_seq)
             | (with_reducible apply go_region)
             | ((with_reducible apply go_cond_f); rfl; rfl)
             | (((with_reducible apply go_cond); rfl) <;> (intro h; simp only [h]; try simp only [decide_eq_true_eq, decide_eq_false_iff_not, Bool.not_eq_true', Bool.not_eq_false', Bool.not_true, Bool.not_false] at h; try exact absurd trivial h))
             | ((with_reducible apply go_order); kernel_rfl; rfl)
             | (with_reducible apply go_ret)
             | (with_reducible apply go_skipc))
           | (with_reducible apply go_kseq)
           | (with_reducible apply go_ksuf)
           | (with_reducible apply go_kseq_ret)
           | ((with_reducible apply end_bool); rfl)
           | (with_reducible rfl)
      all_goals first | (exfalso; omega) | skip
      generalize hkk : (a % (l.length : Int)).toNat = kk at *
      have hM : (l.drop kk ++ l.take kk).Perm l := (List.perm_append_comm).trans (by rw [List.take_append_drop])
      have hMl := hM.length_eq
      have hRM : rankedR (l.drop kk ++ l.take kk) num den least = (rankI l num den, 0) := by
        rw [← hR]
        unfold rankedR
        rw [hMl, hM.all_eq, rankI_perm hM]
      have hcM := c_Ranked (l.drop kk ++ l.take kk) (by rw [hMl]; omega) num den least
      rw [hRM] at hcM
      refine go_app_map_sl (f := encInt) (l := l.drop kk) (l2 := l.take kk) scalIntU rfl rfl rfl rfl (fun _ => rfl) (by kernel_rfl) (by kernel_rfl) (by rw [← List.length_append, hMl]; omega) rfl ?_
      rw [← List.length_append, hMl]
      have hM0 : 0 < (l.drop kk ++ l.take kk).length := by rw [hMl]; exact hn
      generalize hMM : l.drop kk ++ l.take kk = M at *
      clear hMM
      obtain ⟨m0, rest, rfl⟩ : ∃ m0 rest, M = m0 :: rest := by
        cases M with
        | nil => simp at hM0
        | cons a b => exact ⟨a, b, rfl⟩
      have hallM : (m0 :: rest).all inV = true := by rw [hM.all_eq]; exact hall
      have hm0 : 0 ≤ m0 ∧ m0 ≤ 1000000000 := by
        simp only [List.all_cons, Bool.and_eq_true] at hallM
        exact of_decide_eq_true hallM.1
      have hRM1 : rankedR (min (m0 + b) 1000000000 :: rest) num den least = (rankI (min (m0 + b) 1000000000 :: rest) num den, 0) := by
        have e : (min (m0 + b) 1000000000 :: rest).length = l.length := by rw [← hMl]; rfl
        have e2 : (min (m0 + b) 1000000000 :: rest).all inV = true := by
          simp only [List.all_cons, Bool.and_eq_true] at hallM ⊢
          exact ⟨decide_eq_true (by omega), hallM.2⟩
        unfold rankedR
        rw [if_neg (by simp [ruleOK]; omega), if_neg (by omega), if_neg (by simp [e2]), if_neg (by omega)]
      have hcM1 := c_Ranked (min (m0 + b) 1000000000 :: rest) (by have e : (min (m0 + b) 1000000000 :: rest).length = l.length := (by rw [← hMl]; rfl); omega) num den least
      rw [hRM1] at hcM1
      have hgrow : rankI l num den ≤ rankI (min (m0 + b) 1000000000 :: rest) num den := by
        rw [← rankI_perm hM]
        exact rankI_grow (by omega) hrule.1.1 hrule.2.1
      have hfound : fnd l (rankI l num den) l.length = true := fnd_all (rankI_mem hn hrule.1.1 hrule.2.1)
      have hmost : (l.length : Int) * num ≤ (cnt l (rankI l num den) l.length : Int) * den := by
        rw [cnt_all]; exact rankI_most hn hrule.1.1 hrule.2.1
      have hcl : cnt l (rankI l num den) l.length ≤ 60 := by
        rw [cnt_all]; exact Nat.le_trans List.countP_le_length h60
      have hcp : 0 ≤ (cnt l (rankI l num den) l.length : Int) * den ∧ (cnt l (rankI l num den) l.length : Int) * den ≤ 60000 := by
        refine ⟨Int.mul_nonneg (by omega) (by omega), ?_⟩
        have := Int.mul_le_mul (show (cnt l (rankI l num den) l.length : Int) ≤ 60 by omega) hrule.1.2 (by omega) (by omega)
        omega
      have hlp : 0 ≤ (l.length : Int) * num ∧ (l.length : Int) * num ≤ 60000 := by
        refine ⟨Int.mul_nonneg (by omega) (by omega), ?_⟩
        have := Int.mul_le_mul (show (l.length : Int) ≤ 60 by omega) (show num ≤ 1000 by omega) (by omega) (by omega)
        omega
      have hgM : (m0 :: rest).length = l.length := hMl
      repeat' first
           | (with_reducible apply go_op)
           | (with_reducible apply go_next)
           | ((with_reducible (show evOp _ _ _ _ _ _)); first
             | ((with_reducible (show evOp _ (.move _) _ _ _ _)) ; first | ((with_reducible apply go_mv_int); rfl; rfl) | ((with_reducible apply go_mv_bool); rfl; rfl) | ((with_reducible apply go_mv_os); rfl; rfl) | ((with_reducible apply go_mv_tup); rfl; rfl))
             | ((with_reducible apply go_as))
             | (((with_reducible apply go_ld_agg); rfl; rfl; rfl; rfl))
             | (((with_reducible apply go_cmp); rfl; rfl; rfl; rfl))
             | (((with_reducible apply go_fn_plain); (exact purL_os rfl (by simp; try assumption) rfl); (exact hcM); rfl; (exact Nat.le_of_ble_eq_true rfl); rfl))
             | (((with_reducible apply go_extract); rfl; rfl))
             | (((with_reducible apply go_pick); rfl; rfl; rfl)))
           | ((with_reducible (show evOps _ _ _ _ _ _)); first
             | (with_reducible apply go_nil)
             | ((with_reducible apply go_run); rfl; rfl))
           | ((with_reducible (show evG _ _ _ _ _)); first
             | (with_reducible apply go_seq)
             | (with_reducible apply go_region)
             | (((with_reducible apply go_cond); rfl) <;> (intro h; simp only [h]; try simp only [decide_eq_true_eq, decide_eq_false_iff_not, Bool.not_eq_true', Bool.not_eq_false', Bool.not_true, Bool.not_false] at h; try exact absurd trivial h))
             | (with_reducible apply go_skipc)
             | (with_reducible apply go_block))
           | (with_reducible apply go_kseq)
      all_goals first | (exfalso; omega) | skip
      refine go_count l.length (fun i => stR l (rankI l num den) m0 rest num den least a b i (cnt l (rankI l num den) i) (fnd l (rankI l num den) i)) (fun i => True) (entails_eq (nx := 32) (k := 0) (ns := []) (ks := [15, 14, 13, 0, 7, 10, 4, 5]) [(1056, 0), (0, 1), (32, 2)] rfl (by simp) (by kernel_rfl)) trivial ?_
      intro i hi _
      by_cases hlt : i < l.length
      · have e1 := cnt_step (v := rankI l num den) hlt
        have e2 := fnd_step (v := rankI l num den) hlt
        have hci : cnt l (rankI l num den) i ≤ i := cnt_le
        generalize rankI l num den = v at *
        generalize cnt l v i = c at *
        generalize hf : fnd l v i = f at *
        cases f
        all_goals (unfold stR; repeat' first
           | (with_reducible apply go_op)
           | (with_reducible apply go_next)
           | ((with_reducible (show evOp _ _ _ _ _ _)); first
             | ((with_reducible (show evOp _ (.move _) _ _ _ _)) ; first | ((with_reducible apply go_mv_int); rfl; rfl) | ((with_reducible apply go_mv_bool); rfl; rfl) | ((with_reducible apply go_mv_sl); rfl; rfl) | ((with_reducible apply go_mv_os); rfl; rfl))
             | ((with_reducible apply go_as))
             | ((with_reducible (show evOp _ (.load _ _) _ _ _ _)) ; first | ((with_reducible apply go_load_om); rfl; rfl; rfl; rfl; rotate_left; assumption) | ((with_reducible apply go_ld_agg); rfl; rfl; rfl; rfl) | ((with_reducible apply go_load); rfl; rfl; rfl) | ((with_reducible apply go_load_own); rfl; rfl; rfl; rfl))
             | ((with_reducible (show evOp _ (.indexAddr _ _ _) _ _ _ _)) ; first | ((with_reducible apply go_index_arr); rfl; rfl; rfl; rfl; omega) | ((with_reducible apply go_index_nat); rfl; rfl; (with_reducible rfl); (intro; rfl); rfl; omega; (intro hlt)) | ((with_reducible apply go_index_own); rfl; rfl; rfl; rfl; rfl; omega))
             | ((with_reducible (show evOp _ (.binOp _ _ _ _ _) _ _ _ _)) ; first | ((with_reducible apply go_cmp); rfl; rfl; rfl; rfl) | ((with_reducible apply go_add); rfl; rfl; rfl; omega))
             | ((with_reducible (show evOp _ (.call _) _ _ _ _)) ; first | ((with_reducible apply go_len); rfl; rfl) | ((with_reducible apply go_min); rfl; rfl; rfl))
             | (((with_reducible apply go_store); rfl; rfl; rfl; rfl; rfl; rfl; (exact Nat.le_of_ble_eq_true rfl); (first | exact Nat.le_of_ble_eq_true rfl | omega); rfl; rfl))
             | (((with_reducible apply go_conv64); rfl; rfl; omega))
             | (((with_reducible apply go_pick); rfl; rfl; rfl)))
           | ((with_reducible (show evOps _ _ _ _ _ _)); first
             | (with_reducible apply go_nil)
             | ((with_reducible apply go_run); rfl; rfl)
             | ((with_reducible apply go_pass); rfl; rfl; rfl)
             | ((with_reducible apply go_pre); rfl)
             | ((with_reducible apply go_pre_stop); rfl)
             | ((with_reducible apply go_suf); rfl)
             | ((with_reducible apply go_suf_stop); rfl))
           | ((with_reducible (show evG _ _ _ _ _)); first
             | (with_reducible apply go_seq)
             | (with_reducible apply go_region)
             | (((with_reducible apply go_cond); rfl) <;> (intro h; simp only [h]; try simp only [decide_eq_true_eq, decide_eq_false_iff_not, Bool.not_eq_true', Bool.not_eq_false', Bool.not_true, Bool.not_false] at h; try exact absurd trivial h))
             | ((with_reducible apply go_order); kernel_rfl; rfl)
             | (with_reducible apply go_skipc)
             | (with_reducible apply go_block)
             | (with_reducible apply go_exit))
           | (with_reducible apply go_kseq)
           | (with_reducible apply go_ksuf)
           | (with_reducible apply go_kblock)
           | (with_reducible apply go_kblock_exit)
           | (with_reducible apply go_kseq_exit))
        all_goals try exact absurd hlt (by omega)
        all_goals
          refine ⟨hlt, trivial, ?_⟩
          first | rw [if_pos ‹l[i] ≤ v›] at e1 | rw [if_neg ‹¬ l[i] ≤ v›] at e1
          show Entails _ (stR l v m0 rest num den least a b (i + 1) (cnt l v (i + 1)) (fnd l v (i + 1)))
          rw [e1, e2]
          exact entails_eq (nx := 32) (k := 0) (ns := []) (ks := [15, 14, 13, 0, 7, 10, 4, 5]) [(0, 0), (1, 1), (2, 2)] rfl (by simp) (by kernel_rfl)
      · have hie : i = l.length := by omega
        subst hie
        unfold stR
        repeat' first
           | ((with_reducible apply (go_index_oq (i := 0))); rfl; rfl; rfl; omega; rfl; rfl; (exact ⟨by omega, by omega⟩); (intro hlt))
           | (with_reducible apply go_op)
           | (with_reducible apply go_next)
           | ((with_reducible (show evOp _ _ _ _ _ _)); first
             | ((with_reducible (show evOp _ (.move _) _ _ _ _)) ; first | ((with_reducible apply go_mv_int); rfl; rfl) | ((with_reducible apply go_mv_bool); rfl; rfl) | ((with_reducible apply go_mv_sl); rfl; rfl) | ((with_reducible apply go_mv_os); rfl; rfl))
             | ((with_reducible apply go_as))
             | ((with_reducible (show evOp _ (.load _ _) _ _ _ _)) ; first | ((with_reducible apply go_load_om); rfl; rfl; rfl; rfl; rotate_left; assumption) | ((with_reducible apply go_ld_agg); rfl; rfl; rfl; rfl) | ((with_reducible apply go_load); rfl; rfl; rfl) | ((with_reducible apply go_load_own); rfl; rfl; rfl; rfl))
             | ((with_reducible (show evOp _ (.indexAddr _ _ _) _ _ _ _)) ; first | ((with_reducible apply go_index_arr); rfl; rfl; rfl; rfl; omega) | ((with_reducible apply go_index_nat); rfl; rfl; (with_reducible rfl); (intro; rfl); rfl; omega; (intro hlt)))
             | ((with_reducible (show evOp _ (.binOp _ _ _ _ _) _ _ _ _)) ; first | ((with_reducible apply go_cmp); rfl; rfl; rfl; rfl) | ((with_reducible apply go_add); rfl; rfl; rfl; omega) | ((with_reducible apply go_bin); rfl; rfl))
             | ((with_reducible (show evOp _ (.call _) _ _ _ _)) ; first | ((with_reducible apply go_len); rfl; rfl) | ((with_reducible apply go_min); rfl; rfl; rfl))
             | (((with_reducible apply go_store); rfl; rfl; rfl; rfl; rfl; rfl; (exact Nat.le_of_ble_eq_true rfl); (first | exact Nat.le_of_ble_eq_true rfl | omega); rfl; rfl))
             | (((with_reducible apply go_conv64); rfl; rfl; omega))
             | (((with_reducible apply go_pick); rfl; rfl; rfl)))
           | ((with_reducible (show evOps _ _ _ _ _ _)); first
             | (with_reducible apply go_nil)
             | ((with_reducible apply go_run); rfl; rfl)
             | ((with_reducible apply go_pass); rfl; rfl; rfl)
             | (((with_reducible apply go_guard); rfl) <;> (intro h; simp only [h, Bool.not_true, Bool.not_false]; (try with_reducible (refine ⟨rfl, ?_⟩)); try simp only [decide_eq_true_eq, decide_eq_false_iff_not, Bool.not_eq_true', Bool.not_eq_false', Bool.not_true, Bool.not_false] at h; try exact absurd trivial h))
             | ((with_reducible apply go_pre); rfl)
             | ((with_reducible apply go_pre_stop); rfl)
             | ((with_reducible apply go_suf); rfl)
             | ((with_reducible apply go_suf_stop); rfl))
           | ((with_reducible (show evG _ _ _ _ _)); first
             | (with_reducible apply go_seq)
             | (with_reducible apply go_region)
             | (((with_reducible apply go_cond); rfl) <;> (intro h; simp only [h]; try simp only [decide_eq_true_eq, decide_eq_false_iff_not, Bool.not_eq_true', Bool.not_eq_false', Bool.not_true, Bool.not_false] at h; try exact absurd trivial h))
             | ((with_reducible apply go_order); kernel_rfl; rfl)
             | (with_reducible apply go_skipc)
             | (with_reducible apply go_block)
             | (with_reducible apply go_exit))
           | (with_reducible apply go_kseq)
           | (with_reducible apply go_ksuf)
           | (with_reducible apply go_kblock)
           | (with_reducible apply go_kblock_exit)
           | (with_reducible apply go_kseq_exit)
        all_goals try exact absurd hlt (by omega)
        have hw : IntKind.i64.wrap ((m0 :: rest)[0 + 0] + b) = m0 + b := wrap64 (a := m0 + b) (by omega)
        rw [hw]
        refine go_fn_plain (args' := [.sl ((min (m0 + b) 1000000000 :: rest).map encInt), .agg (encRule num den least)]) (purL_os rfl (by simp; omega) rfl) hcM1 rfl (Nat.le_of_ble_eq_true rfl) rfl ?_
        repeat' first
           | (with_reducible apply go_op)
           | (with_reducible apply go_next)
           | ((with_reducible (show evOp _ _ _ _ _ _)); first
             | ((with_reducible (show evOp _ (.move _) _ _ _ _)) ; first | ((with_reducible apply go_mv_int); rfl; rfl) | ((with_reducible apply go_mv_bool); rfl; rfl) | ((with_reducible apply go_mv_sl); rfl; rfl) | ((with_reducible apply go_mv_tup); rfl; rfl))
             | ((with_reducible apply go_as))
             | (((with_reducible apply go_load_own); rfl; rfl; rfl; rfl))
             | (((with_reducible apply go_fieldAddr_own); rfl; rfl; rfl))
             | ((with_reducible (show evOp _ (.binOp _ _ _ _ _) _ _ _ _)) ; first | ((with_reducible apply go_cmp); rfl; rfl; rfl; rfl) | ((with_reducible apply go_mul); rfl; rfl; rfl; omega))
             | (((with_reducible apply go_len); rfl; rfl))
             | (((with_reducible apply go_extract); rfl; rfl))
             | (((with_reducible apply go_pick); rfl; rfl; rfl)))
           | ((with_reducible (show evOps _ _ _ _ _ _)); first
             | (with_reducible apply go_nil)
             | ((with_reducible apply go_run); rfl; rfl)
             | ((with_reducible apply go_pass); rfl; rfl; rfl)
             | (((with_reducible apply go_guard); rfl) <;> (intro h; simp only [h, Bool.not_true, Bool.not_false]; (try with_reducible (refine ⟨rfl, ?_⟩)); try simp only [decide_eq_true_eq, decide_eq_false_iff_not, Bool.not_eq_true', Bool.not_eq_false', Bool.not_true, Bool.not_false] at h; try exact absurd trivial h)))
           | ((with_reducible (show evG _ _ _ _ _)); first
             | (with_reducible apply go_seq)
             | (with_reducible apply go_region)
             | (with_reducible apply go_ret))
           | (with_reducible apply go_kseq)
           | ((with_reducible apply end_bool); rfl)
        all_goals try exact absurd hlt (by omega)
        all_goals first
          | exact decide_eq_true hgrow
          | (exfalso; rename_i hx; first | (rw [hfound] at hx; cases hx) | omega)
          | (exfalso; simp_all; done)
          | trace_state
    · have hc := c_Ranked l (by omega) num den least
      rw [rankedR_err h0] at hc
      refine contract_of mix Try.func16 rfl rfl (by rw [Try.ntmps16]; exact Nat.le_of_ble_eq_true rfl) ?_; rw [Try.results16, Try.ntmps16]; simp only [argsE, Nat.reduceAdd]
      repeat' first
           | (with_reducible apply go_op)
           | (with_reducible apply go_next)
           | ((with_reducible (show evOp _ _ _ _ _ _)); first
             | ((with_reducible (show evOp _ (.move _) _ _ _ _)) ; first | ((with_reducible apply go_mv_int); rfl; rfl) | ((with_reducible apply go_mv_bool); rfl; rfl) | ((with_reducible apply go_mv_sl); rfl; rfl) | ((with_reducible apply go_mv_tup); rfl; rfl))
             | ((with_reducible apply go_as))
             | ((with_reducible (show evOp _ (.load _ _) _ _ _ _)) ; first | ((with_reducible apply go_ld_agg); rfl; rfl; rfl; rfl) | ((with_reducible apply go_load_own); rfl; rfl; rfl; rfl))
             | (((with_reducible apply go_index_arr); rfl; rfl; rfl; rfl; omega))
             | ((with_reducible (show evOp _ (.binOp _ _ _ _ _) _ _ _ _)) ; first | ((with_reducible apply go_cmp); rfl; rfl; rfl; rfl) | ((with_reducible apply go_rem_pos); rfl; rfl; rfl; omega))
             | ((with_reducible (show evOp _ (.call _) _ _ _ _)) ; first | ((with_reducible apply go_len); rfl; rfl) | ((with_reducible apply go_fn_bool); rfl; (exact c18); rfl) | ((with_reducible apply go_fn_plain); rfl; (exact hc); rfl; (exact Nat.le_of_ble_eq_true rfl); rfl))
             | (((with_reducible apply go_drop_sl); rfl; rfl; (intro; rfl); rfl; omega))
             | (((with_reducible apply go_not); rfl; rfl))
             | (((with_reducible apply go_extract); rfl; rfl))
             | (((with_reducible apply go_conv64); rfl; rfl; omega))
             | (((with_reducible apply go_pick); rfl; rfl; rfl))
             | (((with_reducible apply go_bx_agg); rfl; rfl; (exact Nat.le_of_ble_eq_true rfl); rfl; rfl)))
           | ((with_reducible (show evOps _ _ _ _ _ _)); first
             | (with_reducible apply go_nil)
             | ((with_reducible apply go_run); rfl; rfl)
             | ((with_reducible apply go_pass); rfl; rfl; rfl)
             | (((with_reducible apply go_guard); rfl) <;> (intro h; simp only [h, Bool.not_true, Bool.not_false]; (try with_reducible (refine ⟨rfl, ?_⟩)); try simp only [decide_eq_true_eq, decide_eq_false_iff_not, Bool.not_eq_true', Bool.not_eq_false', Bool.not_true, Bool.not_false] at h; try exact absurd trivial h))
             | ((with_reducible apply go_pre); rfl))
           | ((with_reducible (show evG _ _ _ _ _)); first
             | (with_reducible apply go_seq)
             | (with_reducible apply go_region)
             | ((with_reducible apply go_cond_t); rfl; rfl)
             | ((with_reducible apply go_cond_f); rfl; rfl)
             | (((with_reducible apply go_cond); rfl) <;> (intro h; simp only [h]; try simp only [decide_eq_true_eq, decide_eq_false_iff_not, Bool.not_eq_true', Bool.not_eq_false', Bool.not_true, Bool.not_false] at h; try exact absurd trivial h))
             | ((with_reducible apply go_order); kernel_rfl; rfl)
             | (with_reducible apply go_ret)
             | (with_reducible apply go_skipc))
           | (with_reducible apply go_kseq)
           | (with_reducible apply go_kseq_ret)
           | ((with_reducible apply end_bool); rfl)
           | (with_reducible rfl)
      all_goals first | rfl | (exfalso; omega) | (simp [h0]; done) | trace_state
end Go.Pv.Soil

open Go Go.Proofs Go.Pv
set_option maxHeartbeats 1000000
set_option maxRecDepth 100000
set_option linter.unusedVariables false
namespace Go.Pv.Soil

theorem own : ownKnob Try.prog.godebug = none := by kernel_rfl
theorem laidOut : laidOutB Try.prog = true := by kernel_rfl

def okFrac (x : Int × Int) : Prop := I64 x.1 ∧ I64 x.2
def okSoil (s : Soil) : Prop := s.name.size ≤ maxLen ∧ I64 s.a ∧ I64 s.b ∧ I64 s.r ∧ I64 s.h
def okLayer (l : Layer) : Prop := I64 l.top ∧ l.soil.size ≤ maxLen
def okBor (b : Boring) : Prop := b.name.size ≤ maxLen ∧ I64 b.x ∧ I64 b.y ∧ b.layers.length ≤ maxLen ∧ ∀ l ∈ b.layers, okLayer l
def okGround (g : Ground) : Prop := (g.soils.length ≤ maxLen ∧ ∀ s ∈ g.soils, okSoil s) ∧ g.borings.length ≤ maxLen ∧ ∀ b ∈ g.borings, okBor b

theorem rInt : Reads Try.prog 3 I64 (fun n => [.int .i64 n]) := reads_i64 Try.underlying3 (by kernel_rfl)
theorem rStr : Reads Try.prog 9 (fun s : ByteArray => s.size ≤ maxLen) (fun s => [.str s]) := reads_str Try.underlying9 (by kernel_rfl)
theorem rSoil : Reads Try.prog 49 okSoil encSoil :=
  (reads_struct Try.underlying49 (by kernel_rfl) (readsF_cons (k := 1) rStr (by kernel_rfl) rfl (readsF_cons (k := 1) rInt (by kernel_rfl) rfl (readsF_cons (k := 1) rInt (by kernel_rfl) rfl
    (readsF_cons (k := 2) (reads_struct Try.underlying47 (by kernel_rfl) (readsF_cons (k := 1) rInt (by kernel_rfl) rfl (readsF_cons (k := 1) rInt (by kernel_rfl) rfl readsF_nil))) (by kernel_rfl) rfl readsF_nil))))).map
    (fun x => ⟨x.1, x.2.1, x.2.2.1, x.2.2.2.1.1, x.2.2.2.1.2.1⟩) (fun _ _ => rfl) (fun _ h => ⟨h.1, h.2.1, h.2.2.1, h.2.2.2.1.1, h.2.2.2.1.2.1⟩) fun _ _ => by kernel_rfl
theorem rSoils : Reads Try.prog 22 (fun l : List Soil => l.length ≤ maxLen ∧ ∀ a ∈ l, okSoil a) (fun l => [.sl (l.map encSoil)]) := reads_slice Try.underlying22 rSoil (k := 5) (by kernel_rfl) (by decide) (by kernel_rfl)
theorem rLayer : Reads Try.prog 142 okLayer encLayer :=
  (reads_struct Try.underlying142 (by kernel_rfl) (readsF_cons (k := 1) rInt (by kernel_rfl) rfl (readsF_cons (k := 1) rStr (by kernel_rfl) rfl readsF_nil))).map
    (fun x => ⟨x.1, x.2.1⟩) (fun _ _ => rfl) (fun _ h => ⟨h.1, h.2.1⟩) fun _ _ => by kernel_rfl
theorem rLayers : Reads Try.prog 138 (fun l : List Layer => l.length ≤ maxLen ∧ ∀ a ∈ l, okLayer a) (fun l => [.sl (l.map encLayer)]) := reads_slice Try.underlying138 rLayer (k := 2) (by kernel_rfl) (by decide) (by kernel_rfl)
theorem rBor : Reads Try.prog 140 okBor encBor :=
  (reads_struct Try.underlying140 (by kernel_rfl) (readsF_cons (k := 1) rStr (by kernel_rfl) rfl (readsF_cons (k := 1) rInt (by kernel_rfl) rfl (readsF_cons (k := 1) rInt (by kernel_rfl) rfl (readsF_cons (k := 1) rLayers (by kernel_rfl) rfl readsF_nil))))).map
    (fun x => ⟨x.1, x.2.1, x.2.2.1, x.2.2.2.1⟩) (fun _ _ => rfl) (fun _ h => ⟨h.1, h.2.1, h.2.2.1, h.2.2.2.1.1, h.2.2.2.1.2⟩) fun _ _ => by kernel_rfl
theorem rBors : Reads Try.prog 23 (fun l : List Boring => l.length ≤ maxLen ∧ ∀ a ∈ l, okBor a) (fun l => [.sl (l.map encBor)]) := reads_slice Try.underlying23 rBor (k := 4) (by kernel_rfl) (by decide) (by kernel_rfl)
theorem rGround : Reads Try.prog 25 okGround encGround :=
  (reads_struct Try.underlying25 (by kernel_rfl) (readsF_cons (k := 1) rSoils (by kernel_rfl) rfl (readsF_cons (k := 1) rBors (by kernel_rfl) rfl readsF_nil))).map
    (fun x => ⟨x.1, x.2.1⟩) (fun _ _ => rfl) (fun _ h => ⟨h.1, h.2.1.1, h.2.1.2⟩) fun _ _ => by kernel_rfl

theorem aGround : ReadsA Try.prog [25] okGround (fun g => [.agg (encGround g)]) :=
  (readsA_cons Try.underlying25 rGround (g := fun g => .agg (encGround g)) (.inr ⟨rfl, fun _ => rfl⟩) readsA_nil).map (fun x => x.1) (fun _ _ => rfl) (fun _ h => h.1)

theorem aSoilII : ReadsA Try.prog [49, 3, 3] (fun x : Soil × Int × Int => okSoil x.1 ∧ I64 x.2.1 ∧ I64 x.2.2) (fun x => [.agg (encSoil x.1), .int .i64 x.2.1, .int .i64 x.2.2]) :=
  (readsA_cons Try.underlying49 rSoil (g := fun s => .agg (encSoil s)) (.inr ⟨rfl, fun _ => rfl⟩) (readsA_cons Try.underlying3 rInt (g := fun n => .int .i64 n) (.inl ⟨rfl, fun _ => rfl⟩)
    (readsA_cons Try.underlying3 rInt (g := fun n => .int .i64 n) (.inl ⟨rfl, fun _ => rfl⟩) readsA_nil))).map (fun x => (x.1, x.2.1, x.2.2.1)) (fun _ _ => rfl) (fun _ h => ⟨h.1, h.2.1, h.2.2.1⟩)

theorem rPt : Reads Try.prog 62 (fun p : Pt => I64 p.x ∧ I64 p.y) encPt :=
  (reads_struct Try.underlying62 (by kernel_rfl) (readsF_cons (k := 1) rInt (by kernel_rfl) rfl (readsF_cons (k := 1) rInt (by kernel_rfl) rfl readsF_nil))).map
    (fun x => ⟨x.1, x.2.1⟩) (fun _ _ => rfl) (fun _ h => ⟨h.1, h.2.1⟩) fun _ _ => by kernel_rfl
theorem rAt2 : Reads Try.prog 73 (fun x : Int × Int => I64 x.1 ∧ I64 x.2) (fun x => [.int .i64 x.1, .int .i64 x.2]) :=
  (reads_array (n := 2) (k := 1) Try.underlying73 rInt (by kernel_rfl) (by kernel_rfl)).map (fun l => (l.getD 0 0, l.getD 1 0))
    (fun l h => by match l, h.1 with | [a, b], _ => rfl) (fun l h => by match l, h with | [a, b], h => exact ⟨h.2 a (by simp), h.2 b (by simp)⟩) fun _ _ => by kernel_rfl
theorem rAt3 : Reads Try.prog 63 (fun x : Int × Int × Int => I64 x.1 ∧ I64 x.2.1 ∧ I64 x.2.2) (fun x => [.int .i64 x.1, .int .i64 x.2.1, .int .i64 x.2.2]) :=
  (reads_array (n := 3) (k := 1) Try.underlying63 rInt (by kernel_rfl) (by kernel_rfl)).map (fun l => (l.getD 0 0, l.getD 1 0, l.getD 2 0))
    (fun l h => by match l, h.1 with | [a, b, c], _ => rfl) (fun l h => by match l, h with | [a, b, c], h => exact ⟨h.2 a (by simp), h.2 b (by simp), h.2 c (by simp)⟩) fun _ _ => by kernel_rfl
theorem aPlaces : ReadsA Try.prog [25, 62, 73] (fun x : Ground × Pt × (Int × Int) => okGround x.1) (fun x => [.agg (encGround x.1), .agg (encPt x.2.1), .agg [.int .i64 x.2.2.1, .int .i64 x.2.2.2]]) :=
  (readsA_cons Try.underlying25 rGround (g := fun g => .agg (encGround g)) (.inr ⟨rfl, fun _ => rfl⟩) (readsA_cons Try.underlying62 rPt (g := fun p => .agg (encPt p)) (.inr ⟨rfl, fun _ => rfl⟩)
    (readsA_cons Try.underlying73 rAt2 (g := fun x => .agg [.int .i64 x.1, .int .i64 x.2]) (.inr ⟨rfl, fun _ => rfl⟩) readsA_nil))).map (fun x => (x.1, x.2.1, x.2.2.1)) (fun _ _ => rfl) (fun _ h => h.1)
theorem aColumns : ReadsA Try.prog [25, 62, 63] (fun x : Ground × Pt × (Int × Int × Int) => okGround x.1 ∧ I64 x.2.2.2.2) (fun x => [.agg (encGround x.1), .agg (encPt x.2.1), .agg [.int .i64 x.2.2.1, .int .i64 x.2.2.2.1, .int .i64 x.2.2.2.2]]) :=
  (readsA_cons Try.underlying25 rGround (g := fun g => .agg (encGround g)) (.inr ⟨rfl, fun _ => rfl⟩) (readsA_cons Try.underlying62 rPt (g := fun p => .agg (encPt p)) (.inr ⟨rfl, fun _ => rfl⟩)
    (readsA_cons Try.underlying63 rAt3 (g := fun x => .agg [.int .i64 x.1, .int .i64 x.2.1, .int .i64 x.2.2]) (.inr ⟨rfl, fun _ => rfl⟩) readsA_nil))).map (fun x => (x.1, x.2.1, x.2.2.1)) (fun _ _ => rfl) (fun _ h => ⟨h.1, h.2.2.1.2.2⟩)

end Go.Pv.Soil

open Go Go.Proofs Go.Pv
set_option maxHeartbeats 1000000
set_option maxRecDepth 100000
set_option linter.unusedVariables false
namespace Go.Pv.Soil
theorem rIntsU : Reads Try.prog 33 (fun l : List Int => l.length ≤ maxLen ∧ ∀ a ∈ l, I64 a) (fun l => [.sl (l.map encInt)]) := reads_slice Try.underlying33 rInt (k := 1) (by kernel_rfl) (by decide) (by kernel_rfl)
theorem rRule : Reads Try.prog 119 (fun x : Int × Int × Int => I64 x.1 ∧ I64 x.2.1 ∧ I64 x.2.2) (fun x => encRule x.1 x.2.1 x.2.2) :=
  (reads_struct Try.underlying119 (by kernel_rfl) (readsF_cons (k := 1) rInt (by kernel_rfl) rfl (readsF_cons (k := 1) rInt (by kernel_rfl) rfl (readsF_cons (k := 1) rInt (by kernel_rfl) rfl readsF_nil)))).map
    (fun x => (x.1, x.2.1, x.2.2.1)) (fun _ _ => rfl) (fun _ h => ⟨h.1, h.2.1, h.2.2.1⟩) fun _ _ => by kernel_rfl
theorem rAtU : Reads Try.prog 121 (fun x : Int × Int => (0 ≤ x.1 ∧ x.1 ≤ 65535) ∧ 0 ≤ x.2 ∧ x.2 ≤ 65535) (fun x => encAt x.1 x.2) :=
  (reads_array (n := 2) (k := 1) Try.underlying121 (reads_int (k := .u16) Try.underlying120 (by kernel_rfl)) (by kernel_rfl) (by kernel_rfl)).map
    (fun l => (l.getD 0 0, l.getD 1 0)) (fun l h => by
      obtain ⟨a, b, rfl⟩ : ∃ a b, l = [a, b] := by
        match l, h.1 with
        | [a, b], _ => exact ⟨a, b, rfl⟩
      rfl) (fun l h => by
      obtain ⟨a, b, rfl⟩ : ∃ a b, l = [a, b] := by
        match l, h.1 with
        | [a, b], _ => exact ⟨a, b, rfl⟩
      have ha := h.2 a (by simp)
      have hb := h.2 b (by simp)
      simp [Lit.wf, IntKind.min, IntKind.max, IntKind.bits, IntKind.signed] at ha hb
      exact ⟨by simpa using ha, by simpa using hb⟩) fun _ _ => by kernel_rfl
theorem aRanks : ReadsA Try.prog [33, 119, 121] (fun x : List Int × (Int × Int × Int) × (Int × Int) => x.1.length ≤ 9223372036854775807 ∧ (0 ≤ x.2.2.1 ∧ x.2.2.1 ≤ 65535) ∧ 0 ≤ x.2.2.2 ∧ x.2.2.2 ≤ 65535) (fun x => [.sl (x.1.map encInt), .agg (encRule x.2.1.1 x.2.1.2.1 x.2.1.2.2), .agg (encAt x.2.2.1 x.2.2.2)]) :=
  (readsA_cons Try.underlying33 rIntsU (g := fun l => .sl (l.map encInt)) (.inl ⟨rfl, fun _ => rfl⟩) (readsA_cons Try.underlying119 rRule (g := fun x => .agg (encRule x.1 x.2.1 x.2.2)) (.inr ⟨rfl, fun _ => rfl⟩) (readsA_cons Try.underlying121 rAtU (g := fun x => .agg (encAt x.1 x.2)) (.inr ⟨rfl, fun _ => rfl⟩) readsA_nil))).map
    (fun x => (x.1, x.2.1, x.2.2.1)) (fun _ _ => rfl) (fun _ h => ⟨Nat.le_trans h.1.1 (by decide), h.2.2.1⟩)
end Go.Pv.Soil

import Derived.Test.YtdedpndkohfgbaaSO
import Derived.Test.YtdedpndkohfgbaaProg
import Derived.Test.YtdedpndkohfgbaaSP
import Derived.KernelRfl
/- Part of the proofs over Ytdedpndkohfgbaa: PwQ, S45. -/
set_option linter.unusedVariables false
set_option linter.unusedSimpArgs false
set_option linter.unnecessarySimpa false
/- A call that hands over own memory and returns a struct whose last cell is a new list. -/
namespace Go.Pv
section
variable {P : Program} {K : X → St → Prop} {env : Env} {hp : Hp} {nx n id : Nat} {s : Tmp}
theorem go_fn_agfr {α : Type} {f : α → List D} {k q : Nat} {l : List α} {cs : List D} {args : List Operand} {ts : Array TypeId} {g : FuncId} {args' : List D} (hp' : purL (lkH hp) 64 (args.map (evalD env)) = some args') (hc : Contract P g args' (.ret (.agg (cs ++ [.fr k (l.map f)])))) (hf : ScalF f k) (hcs : cs.all cellP = true) (hq : cs.length = q) (hw : Nat.ble q 31 = true)
    (hr : cs.all scal1 = true) (hd : okDst n (some s) = true)
    (h : K .normal ⟨(s, .agg (cs ++ [.os (id + q) 0 l.length])) :: env, (id + q, ⟨k, true, l.map f⟩) :: hp, nx, n⟩) : evOp P (.call { callee := .value (.func g), args := args.toArray, argTypes := ts }) id (some s) ⟨env, hp, nx, n⟩ K := by
  subst hq
  have hw' := Nat.le_of_ble_eq_true hw
  refine go_call_fn hp' hc ?_ (by simp [widR, widE]; omega) hd ?_
  · have : refless (.agg (cs ++ [.fr k (l.map f)])) = true := by
      show (cs ++ [D.fr k (l.map f)]).all reflC = true
      rw [List.all_append, Bool.and_eq_true]
      refine ⟨List.all_eq_true.2 fun c hc => ?_, by simp only [List.all_cons, List.all_nil, Bool.and_true]; exact scalR_map hf l⟩
      have h1 := List.all_eq_true.1 hcs c hc
      have h2 := List.all_eq_true.1 hr c hc
      cases c <;> first | (cases h1; done) | (cases h2; done) | rfl
    rw [this, Bool.or_true]
  have e : adopt id (.agg (cs ++ [.fr k (l.map f)])) = (.agg (cs ++ [.os (id + cs.length) 0 l.length]), [(id + cs.length, ⟨k, true, l.map f⟩)]) := by
    simp [adopt, adE, adL_cells hcs, flat_map hf]
  rw [e]
  exact h
end
end Go.Pv

open Go Go.Proofs Go.Pv
set_option maxHeartbeats 4000000
set_option maxRecDepth 100000
set_option linter.unusedSimpArgs false
set_option linter.unusedVariables false
namespace Go.Pv.Soil

/-- The first levels turned. -/
def turnN (l : List Int) : Nat → List Int
  | 0 => l
  | i + 1 => if lv l i = 30000 then turnN l i else (turnN l i).set i (0 - lv l i)
theorem turnN_len (l : List Int) : ∀ i, (turnN l i).length = l.length
  | 0 => rfl
  | i + 1 => by
    simp only [turnN]
    split
    · exact turnN_len l i
    · rw [List.length_set, turnN_len l i]
theorem turnN_lv (l : List Int) : ∀ i j, i ≤ l.length → lv (turnN l i) j = if j < i then (if lv l j = 30000 then 30000 else -lv l j) else lv l j
  | 0, j, _ => by simp [turnN]
  | i + 1, j, h => by
    have ih := turnN_lv l i j (by omega)
    have hl := turnN_len l i
    simp only [turnN]
    split
    · rename_i h1
      rw [ih]
      by_cases h2 : j < i
      · rw [if_pos h2, if_pos (show j < i + 1 by omega)]
      · rw [if_neg h2]
        by_cases h3 : j = i
        · subst h3; rw [if_pos (by omega), if_pos h1, h1]
        · rw [if_neg (by omega)]
    · rename_i h1
      rw [lv_set (by omega), ih]
      by_cases h3 : i = j
      · subst h3; rw [if_pos rfl, if_pos (show i < i + 1 by omega), if_neg h1]; omega
      · rw [if_neg h3]
        by_cases h2 : j < i
        · rw [if_pos h2, if_pos (show j < i + 1 by omega)]
        · rw [if_neg h2, if_neg (by omega)]
theorem turnN_end (l : List Int) : turnN l l.length = turn l := by
  refine lv_ext (by simp [turnN_len, turn]) fun i hi => ?_
  rw [turnN_len] at hi
  rw [turnN_lv l _ _ (Nat.le_refl _), if_pos hi, lv_turn hi]

theorem c34 (m : Grid) (hm : OkGrid m) : Contract Try.prog 34 [.agg (encGrid m)] (.ret (.agg (encG5 m ++ [.fr 1 ((turn m.levels).map encInt)]))) := by
  have hs := hm.small
  refine contract_of mix Try.func34 rfl rfl (by rw [Try.ntmps34]; exact Nat.le_of_ble_eq_true rfl) ?_; rw [Try.results34, Try.ntmps34]; simp only [argsE, Nat.reduceAdd]
  repeat' first
           | (with_reducible apply go_op)
           | (with_reducible apply go_next)
           | ((with_reducible (show evOp _ _ _ _ _ _)); first
             | (((with_reducible apply go_mv_int); rfl; rfl))
             | ((with_reducible apply go_as))
             | (((with_reducible apply go_ld_agg); rfl; rfl; rfl; rfl))
             | (((with_reducible apply (go_fn_agf (cs := encG5 m))); rfl; (exact c91 m (by omega)); (exact scalInt); rfl; rfl; rfl; rfl; rfl))
             | (((with_reducible apply go_st_agg); rfl; rfl; rfl; rfl; rfl; rfl; rfl))
             | (((with_reducible apply go_bx_agg); rfl; rfl; (exact Nat.le_of_ble_eq_true rfl); rfl; rfl))
             | (((with_reducible apply go_alloc); rfl; rfl; rfl)))
           | ((with_reducible (show evOps _ _ _ _ _ _)); first
             | (with_reducible apply go_nil))
           | ((with_reducible (show ev _ _ _ _)); first
             | (with_reducible apply go_seq)
             | (with_reducible apply go_region)
             | (with_reducible apply go_block))
           | (with_reducible apply go_kseq)
  refine go_count m.levels.length (fun i => ⟨[(4, .int .i64 i), (3, .op 2 0 0), (2, .op 1 0 0), (1, .op 0 0 0)], [(0, ⟨6, true, [encGrid m]⟩), (1, ⟨6, false, [[.int .i64 0, .int .i64 0, .int .i64 0, .int .i64 0, .int .i64 0, .nilsl]]⟩), (2, ⟨6, false, [encG5 m ++ [.os 3 0 m.levels.length]]⟩), (3, ⟨1, true, (turnN m.levels i).map encInt⟩)], 32, 28⟩) (fun _ => True)
    (entails_eq (nx := 32) (k := 1) (ns := []) (ks := [4, 3, 2, 1]) [(0, 0), (32, 1), (128, 2), (101, 3)] rfl (by simp) (by kernel_rfl)) trivial ?_
  intro i hi _
  have htl := turnN_len m.levels i
  by_cases hlt : i < m.levels.length
  · have hla : i < (turnN m.levels i).length := by omega
    have e1 : (turnN m.levels i)[i] = lv m.levels i := by
      rw [← lv_get hla, turnN_lv _ _ _ hi, if_neg (by omega)]
    have hnx : turnN m.levels (i + 1) = if lv m.levels i = 30000 then turnN m.levels i else (turnN m.levels i).set i (0 - lv m.levels i) := rfl
    have r1 := hm.rng i hlt
    have c1 : Contract Try.prog 41 [.agg (encGrid m), .int .i64 i] (.ret (.bool (!decide (lv m.levels i = 30000)))) := c41L m (i : Int) (by omega) (by omega)
    by_cases hk : lv m.levels i = 30000
    · rw [if_pos hk] at hnx
      rw [decide_eq_true hk] at c1
      repeat' first
           | (with_reducible apply go_op)
           | (with_reducible apply go_next)
           | ((with_reducible (show evOp _ _ _ _ _ _)); first
             | (((with_reducible apply go_mv_int); rfl; rfl))
             | ((with_reducible apply go_as))
             | ((with_reducible (show evOp _ (.load _ _) _ _ _ _)) ; first | ((with_reducible apply go_ld_agg); rfl; rfl; rfl; rfl) | ((with_reducible apply go_load_own); rfl; rfl; rfl; rfl))
             | (((with_reducible apply go_fieldAddr_own); rfl; rfl; rfl))
             | ((with_reducible (show evOp _ (.binOp _ _ _ _ _) _ _ _ _)) ; first | ((with_reducible apply go_cmp); rfl; rfl; rfl; rfl) | ((with_reducible apply go_add); rfl; rfl; rfl; omega))
             | ((with_reducible (show evOp _ (.call _) _ _ _ _)) ; first | ((with_reducible apply go_len_own); rfl; rfl; rfl) | ((with_reducible apply go_fn_bool); rfl; (exact c1); rfl))
             | (((with_reducible apply go_st_agg); rfl; rfl; rfl; rfl; rfl; rfl; rfl)))
           | ((with_reducible (show evOps _ _ _ _ _ _)); first
             | (with_reducible apply go_nil))
           | ((with_reducible (show ev _ _ _ _)); first
             | (with_reducible apply go_seq)
             | (with_reducible apply go_region)
             | ((with_reducible apply go_cond_f); rfl; rfl)
             | (((with_reducible apply go_cond); rfl) <;> (intro h; simp only [h]; try simp only [decide_eq_true_eq, decide_eq_false_iff_not, Bool.not_eq_true', Bool.not_eq_false', Bool.not_true, Bool.not_false] at h; try exact absurd trivial h))
             | (with_reducible apply go_ret)
             | (with_reducible apply go_skipc)
             | (with_reducible apply go_block)
             | (with_reducible apply go_exit))
           | (with_reducible apply go_kseq)
           | (with_reducible apply go_kblock)
           | (with_reducible apply go_kblock_exit)
           | (with_reducible apply go_kseq_exit)
      all_goals first
        | exact absurd ‹i < m.levels.length› (by omega)
        | (refine ⟨‹i < m.levels.length›, trivial, ?_⟩; rw [hnx]; exact entails_eq (nx := 32) (k := 1) (ns := []) (ks := [4, 3, 2, 1]) [(0, 0), (1, 1), (2, 2), (3, 3)] rfl (by simp) (by kernel_rfl))
        | trace_state
    · rw [if_neg hk, ← e1] at hnx
      rw [decide_eq_false hk] at c1
      have r1' := r1 hk
      rw [← e1] at r1'
      repeat' first
           | (with_reducible apply go_op)
           | (with_reducible apply go_next)
           | ((with_reducible (show evOp _ _ _ _ _ _)); first
             | (((with_reducible apply go_mv_int); rfl; rfl))
             | ((with_reducible (show evOp _ (.load _ _) _ _ _ _)) ; first | ((with_reducible apply go_load_om); rfl; rfl; rfl; rfl; rotate_left; assumption) | ((with_reducible apply go_ld_agg); rfl; rfl; rfl; rfl) | ((with_reducible apply go_load_own); rfl; rfl; rfl; rfl))
             | (((with_reducible apply go_fieldAddr_own); rfl; rfl; rfl))
             | (((with_reducible apply go_index_om); rfl; rfl; rfl; (with_reducible rfl); rfl; rfl; omega; (intro hlt)))
             | (((with_reducible apply go_cmp); rfl; rfl; rfl; rfl))
             | ((with_reducible (show evOp _ (.call _) _ _ _ _)) ; first | ((with_reducible apply go_len_own); rfl; rfl; rfl) | ((with_reducible apply go_fn_bool); rfl; (exact c1); rfl))
             | (((with_reducible apply go_st_agg); rfl; rfl; rfl; rfl; rfl; rfl; rfl))
             | (((with_reducible apply go_neg); rfl; rfl; omega)))
           | ((with_reducible (show evOps _ _ _ _ _ _)); first
             | (with_reducible apply go_nil)
             | ((with_reducible apply go_pre); rfl)
             | ((with_reducible apply go_pre_stop); rfl)
             | ((with_reducible apply go_suf); rfl)
             | ((with_reducible apply go_suf_stop); rfl))
           | ((with_reducible (show ev _ _ _ _)); first
             | (with_reducible apply go_seq)
             | (with_reducible apply go_region)
             | ((with_reducible apply go_cond_t); rfl; rfl)
             | (((with_reducible apply go_cond); rfl) <;> (intro h; simp only [h]; try simp only [decide_eq_true_eq, decide_eq_false_iff_not, Bool.not_eq_true', Bool.not_eq_false', Bool.not_true, Bool.not_false] at h; try exact absurd trivial h))
             | ((with_reducible apply go_order); kernel_rfl; rfl)
             | (with_reducible apply go_ret)
             | (with_reducible apply go_skipc)
             | (with_reducible apply go_block)
             | (with_reducible apply go_exit))
           | (with_reducible apply go_kseq)
           | (with_reducible apply go_ksuf)
           | (with_reducible apply go_kblock_exit)
           | (with_reducible apply go_kseq_exit)
      all_goals try exact absurd ‹i < m.levels.length› (by omega)
      refine go_store_om (f := encInt) (l := turnN m.levels i) (a := 0 - (turnN m.levels i)[i]) rfl rfl rfl hla rfl rfl rfl rfl (Nat.le_refl _) rfl ?_
      repeat' first
           | (with_reducible apply go_op)
           | (with_reducible apply go_next)
           | ((with_reducible (show evOp _ _ _ _ _ _)); first
             | (((with_reducible apply go_mv_int); rfl; rfl))
             | ((with_reducible apply go_as))
             | (((with_reducible apply go_add); rfl; rfl; rfl; omega)))
           | ((with_reducible (show evOps _ _ _ _ _ _)); first
             | (with_reducible apply go_nil))
           | ((with_reducible (show ev _ _ _ _)); first
             | (with_reducible apply go_region))
           | (with_reducible apply go_kseq)
           | (with_reducible apply go_kblock)
      refine ⟨‹i < m.levels.length›, trivial, ?_⟩
      rw [hnx]
      exact entails_eq (nx := 32) (k := 1) (ns := []) (ks := [4, 3, 2, 1]) [(0, 0), (1, 1), (2, 2), (3, 3)] rfl (by simp) (by kernel_rfl)
  · have e : i = m.levels.length := by omega
    repeat' first
           | (with_reducible apply go_op)
           | (with_reducible apply go_next)
           | ((with_reducible (show evOp _ _ _ _ _ _)); first
             | (((with_reducible apply go_mv_int); rfl; rfl))
             | ((with_reducible (show evOp _ (.load _ _) _ _ _ _)) ; first | ((with_reducible apply go_ld_agg); rfl; rfl; rfl; rfl) | ((with_reducible apply go_load_own); rfl; rfl; rfl; rfl))
             | (((with_reducible apply go_fieldAddr_own); rfl; rfl; rfl))
             | (((with_reducible apply go_cmp); rfl; rfl; rfl; rfl))
             | (((with_reducible apply go_len_own); rfl; rfl; rfl))
             | (((with_reducible apply go_st_agg); rfl; rfl; rfl; rfl; rfl; rfl; rfl)))
           | ((with_reducible (show evOps _ _ _ _ _ _)); first
             | (with_reducible apply go_nil))
           | ((with_reducible (show ev _ _ _ _)); first
             | (with_reducible apply go_seq)
             | (with_reducible apply go_region)
             | (((with_reducible apply go_cond); rfl) <;> (intro h; simp only [h]; try simp only [decide_eq_true_eq, decide_eq_false_iff_not, Bool.not_eq_true', Bool.not_eq_false', Bool.not_true, Bool.not_false] at h; try exact absurd trivial h))
             | (with_reducible apply go_ret)
             | (with_reducible apply go_skipc)
             | (with_reducible apply go_block)
             | (with_reducible apply go_exit))
           | (with_reducible apply go_kseq)
           | (with_reducible apply go_kblock_exit)
           | (with_reducible apply go_kseq_exit)
    all_goals try exact absurd hlt (by omega)
    have et : turn m.levels = turnN m.levels i := by rw [e, turnN_end]
    rw [et]
    exact finK_ret (fin_agf (cs := encG5 m) (len := m.levels.length) rfl rfl (by simp; omega) rfl)
end Go.Pv.Soil

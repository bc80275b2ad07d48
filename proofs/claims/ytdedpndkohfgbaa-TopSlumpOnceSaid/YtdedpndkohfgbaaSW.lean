import Derived.Test.YtdedpndkohfgbaaProg
import Derived.Test.YtdedpndkohfgbaaSM
import Derived.Test.YtdedpndkohfgbaaSX
import Derived.KernelRfl
/- Part of the proofs over Ytdedpndkohfgbaa: S51, S52. -/
set_option linter.unusedVariables false
set_option linter.unusedSimpArgs false
set_option linter.unnecessarySimpa false
open Go Go.Proofs Go.Pv
set_option maxHeartbeats 8000000
set_option maxRecDepth 100000
set_option linter.unusedSimpArgs false
set_option linter.unusedVariables false
namespace Go.Pv.Soil

structure Share where
  soil : ByteArray
  vol : Int
def encShare (s : Share) : List D := [.str s.soil, .int .i64 s.vol]
theorem scalShare : ScalF encShare 2 := fun _ => ⟨rfl, rfl⟩
def addS (l : List Share) (k : Nat) (v : Int) : List Share := match l[k]? with
  | some s => l.set k ⟨s.soil, s.vol + v⟩
  | none => l
theorem addS_at {l : List Share} {k : Nat} (h : k < l.length) (v : Int) : addS l k v = l.set k ⟨l[k].soil, l[k].vol + v⟩ := by
  simp only [addS, List.getElem?_eq_getElem h]
theorem addS_len (l : List Share) (k : Nat) (v : Int) : (addS l k v).length = l.length := by
  unfold addS
  split <;> simp
/-- The shares, with the first parts of a column. -/
def accP (g : Ground) (side : Int) (L : List Share) (C : List Part) : Nat → List Share
  | 0 => L
  | j + 1 => match C[j]? with
    | some p => addS (accP g side L C j) (ofName g.soils p.soil).toNat ((p.top - p.bottom) * side * side)
    | none => accP g side L C j
theorem accP_succ (g : Ground) (side : Int) (L : List Share) {C : List Part} {j : Nat} (h : j < C.length) : accP g side L C (j + 1) = addS (accP g side L C j) (ofName g.soils C[j].soil).toNat ((C[j].top - C[j].bottom) * side * side) := by
  simp only [accP, List.getElem?_eq_getElem h]
theorem accP_len (g : Ground) (side : Int) (L : List Share) (C : List Part) : ∀ j, (accP g side L C j).length = L.length
  | 0 => rfl
  | j + 1 => by
    have ih := accP_len g side L C j
    simp only [accP]
    split
    · rw [addS_len, ih]
    · exact ih
def colAt (g : Ground) (m a : Grid) (i : Nat) : List Part := columnE g (centreE m i) (lv m.levels i) (lv a.levels i)
/-- The shares of the first cells. -/
def cellsS (g : Ground) (m a : Grid) : Nat → List Share
  | 0 => g.soils.map fun s => ⟨s.name, 0⟩
  | i + 1 => if lv m.levels i ≠ 30000 ∧ lv a.levels i ≠ 30000 then accP g m.side (cellsS g m a i) (colAt g m a i) (colAt g m a i).length else cellsS g m a i
theorem cellsS_len (g : Ground) (m a : Grid) : ∀ i, (cellsS g m a i).length = g.soils.length
  | 0 => by simp [cellsS]
  | i + 1 => by
    have ih := cellsS_len g m a i
    simp only [cellsS]
    split
    · rw [accP_len, ih]
    · exact ih

theorem col_mem {b : Boring} {f t : Int} {p : Part} : ∀ {n : Nat}, p ∈ colE b f t n → ∃ k, k < n ∧ p = partAt b f t k ∧ p.bottom < p.top
  | 0, h => by simp [colE] at h
  | n + 1, h => by
    simp only [colE] at h
    split at h
    · rename_i hb
      rcases List.mem_append.1 h with h | h
      · obtain ⟨k, h1, h2, h3⟩ := col_mem h
        exact ⟨k, by omega, h2, h3⟩
      · simp only [List.mem_singleton] at h
        subst h
        exact ⟨n, by omega, rfl, hb⟩
    · obtain ⟨k, h1, h2, h3⟩ := col_mem h
      exact ⟨k, by omega, h2, h3⟩
theorem col_part {g : Ground} (hg : OkG g) {p : Pt} {f t : Int} {q : Part} (h : q ∈ columnE g p f t) : q.bottom < q.top ∧ t ≤ q.bottom ∧ q.top ≤ f ∧ 0 ≤ ofName g.soils q.soil ∧ (ofName g.soils q.soil).toNat < g.soils.length := by
  have hn := near_lt (p := p) hg.n.1
  have hb := hg.bor _ hn
  have e : columnE g p f t = colE g.borings[nearE g p] f t g.borings[nearE g p].layers.length := by
    simp only [columnE, List.getElem?_eq_getElem hn]
  rw [e] at h
  obtain ⟨k, hk, rfl, h3⟩ := col_mem h
  have hbd := part_bds (b := g.borings[nearE g p]) (f := f) (t := t) (n := k)
  rw [part_soil hk]
  have h4 := (hb.lay k hk).2.1
  exact ⟨h3, hbd.1, hbd.2, h4, idxOf_lt h4⟩
theorem col_len {g : Ground} (hg : OkG g) (p : Pt) (f t : Int) : (columnE g p f t).length ≤ 12 := by
  have hn := near_lt (p := p) hg.n.1
  have := colE_len g.borings[nearE g p] f t g.borings[nearE g p].layers.length
  have := (hg.bor _ hn).len
  simp only [columnE, List.getElem?_eq_getElem hn]
  omega
theorem col_nil {g : Ground} (hg : OkG g) {p : Pt} {f t : Int} (h : f ≤ t) : columnE g p f t = [] := by
  cases hc : columnE g p f t with
  | nil => rfl
  | cons q r =>
    have := col_part hg (p := p) (f := f) (t := t) (q := q) (by rw [hc]; exact List.mem_cons_self)
    omega

/-- All volumes are between 0 and a bound. -/
def VB (l : List Share) (B : Int) : Prop := ∀ i (h : i < l.length), 0 ≤ l[i].vol ∧ l[i].vol ≤ B
theorem VB.mono {l : List Share} {B B' : Int} (h : VB l B) (hb : B ≤ B') : VB l B' := fun i hi => by have := h i hi; omega
theorem addS_VB {l : List Share} {B v V : Int} {k : Nat} (h : VB l B) (hv : 0 ≤ v ∧ v ≤ V) (hV : 0 ≤ V) : VB (addS l k v) (B + V) := by
  intro i hi
  rw [addS_len] at hi
  have h1 := h i hi
  by_cases hk : k < l.length
  · simp only [addS_at hk]
    by_cases e : k = i
    · subst e
      simp only [List.getElem_set_self]
      omega
    · simp only [List.getElem_set_ne e]
      omega
  · have e : addS l k v = l := by
      unfold addS
      rw [List.getElem?_eq_none (by omega)]
    simp only [e]
    omega
theorem vol_bd {d s : Int} (hd : 0 ≤ d ∧ d ≤ 40000) (hs : 100 ≤ s ∧ s ≤ 10000) : (0 ≤ d * s ∧ d * s ≤ 400000000) ∧ (0 ≤ d * s * s ∧ d * s * s ≤ 4000000000000) ∧ (0 ≤ s * s ∧ s * s ≤ 100000000) ∧ s * s * d = d * s * s := by
  have h1 := nonneg_mul (a := d) (b := s) (m := 40000) (n := 10000) hd (by omega)
  have h2 := nonneg_mul (a := d * s) (b := s) (m := 400000000) (n := 10000) (by omega) (by omega)
  have h3 := nonneg_mul (a := s) (b := s) (m := 10000) (n := 10000) (by omega) (by omega)
  refine ⟨by omega, by omega, by omega, ?_⟩
  rw [Int.mul_comm (s * s) d, Int.mul_assoc]
theorem accP_VB {g : Ground} {side : Int} {L : List Share} {C : List Part} {B : Int} (hs : 100 ≤ side ∧ side ≤ 10000) (h : VB L B) (hC : ∀ q ∈ C, 0 ≤ q.top - q.bottom ∧ q.top - q.bottom ≤ 40000) : ∀ j, VB (accP g side L C j) (B + 4000000000000 * (j : Int))
  | 0 => by simpa [accP] using h
  | j + 1 => by
    have ih := accP_VB (g := g) hs h hC j
    by_cases hj : j < C.length
    · rw [accP_succ g side L hj]
      have hv := vol_bd (hC _ (List.getElem_mem hj)) hs
      exact (addS_VB ih hv.2.1 (by omega)).mono (by omega)
    · simp only [accP]
      rw [List.getElem?_eq_none (by omega)]
      exact ih.mono (by omega)
theorem lv_rng {m : Grid} (hm : OkGrid m) {i : Nat} (hi : i < m.levels.length) : -20000 ≤ lv m.levels i ∧ lv m.levels i ≤ 30000 := by
  have := hm.rng i hi
  omega
theorem colAt_part {g : Ground} (hg : OkG g) {m a : Grid} (hm : OkGrid m) (ha : OkGrid a) (hl : a.levels.length = m.levels.length) {i : Nat} (hi : i < m.levels.length) (hk : lv m.levels i ≠ 30000 ∧ lv a.levels i ≠ 30000) : ∀ q ∈ colAt g m a i, 0 ≤ q.top - q.bottom ∧ q.top - q.bottom ≤ 40000 := fun q hq => by
  have h := col_part hg hq
  have r1 := hm.rng i hi hk.1
  have r2 := ha.rng i (by omega) hk.2
  omega
theorem cellsS_VB {g : Ground} (hg : OkG g) {m a : Grid} (hm : OkGrid m) (ha : OkGrid a) (hl : a.levels.length = m.levels.length) : ∀ i, i ≤ m.levels.length → VB (cellsS g m a i) (48000000000000 * (i : Int))
  | 0, _ => fun i hi => by simp [cellsS]
  | i + 1, h => by
    have ih := cellsS_VB hg hm ha hl i (by omega)
    simp only [cellsS]
    split
    · rename_i hk
      have := accP_VB (g := g) hm.bds.2.1 ih (colAt_part hg hm ha hl (by omega) hk) (colAt g m a i).length
      have hcl := col_len hg (centreE m i) (lv m.levels i) (lv a.levels i)
      have hcl : (colAt g m a i).length ≤ 12 := hcl
      exact this.mono (by omega)
    · exact ih.mono (by omega)

instance teq116 : TEq Try.prog 116 [.s, .i] := ⟨by kernel_rfl⟩
theorem c54 (l : List Share) (hl : l.length < 1000000000000) : Contract Try.prog 54 [.sl (l.map encShare), .sl (l.map encShare)] (.ret (.bool true)) := by
  refine contract_of mix Try.func54 rfl rfl (by rw [Try.ntmps54]; exact Nat.le_of_ble_eq_true rfl) ?_; rw [Try.results54, Try.ntmps54]; simp only [argsE, Nat.reduceAdd]
  repeat' first
           | (with_reducible apply go_op)
           | (with_reducible apply go_next)
           | ((with_reducible (show evOp _ _ _ _ _ _)); first
             | ((with_reducible (show evOp _ (.move _) _ _ _ _)) ; first | ((with_reducible apply go_mv_int); rfl; rfl) | ((with_reducible apply go_mv_bool); rfl; rfl) | ((with_reducible apply go_mv_sl); rfl; rfl))
             | ((with_reducible apply go_as))
             | (((with_reducible apply go_cmp); rfl; rfl; rfl; rfl))
             | (((with_reducible apply go_len); rfl; rfl)))
           | ((with_reducible (show evOps _ _ _ _ _ _)); first
             | (with_reducible apply go_nil))
           | ((with_reducible (show ev _ _ _ _)); first
             | (with_reducible apply go_seq)
             | (with_reducible apply go_region)
             | (((with_reducible apply go_cond); rfl) <;> (intro h; simp only [h]; try simp only [decide_eq_true_eq, decide_eq_false_iff_not, Bool.not_eq_true', Bool.not_eq_false', Bool.not_true, Bool.not_false] at h; try exact absurd trivial h))
             | (with_reducible apply go_skipc)
             | (with_reducible apply go_block))
           | (with_reducible apply go_kseq)
  refine go_count (l.length) (fun i => ⟨[(5, .int .i64 i), (0, .sl (l.map encShare)), (1, .sl (l.map encShare))], [], 0, 26⟩) (fun i => True) (entails_eq (k := 0) (ns := []) (ks := [5, 0, 1]) [] rfl (by simp) rfl) trivial ?_
  intro i hi hC
  repeat' first
           | (with_reducible apply go_op)
           | (with_reducible apply go_next)
           | ((with_reducible (show evOp _ _ _ _ _ _)); first
             | ((with_reducible (show evOp _ (.move _) _ _ _ _)) ; first | ((with_reducible apply go_mv_int); rfl; rfl) | ((with_reducible apply go_mv_bool); rfl; rfl) | ((with_reducible apply go_mv_sl); rfl; rfl))
             | ((with_reducible apply go_as))
             | (((with_reducible apply go_ld_ptr); rfl; rfl; rfl))
             | (((with_reducible apply go_index_nat); rfl; rfl; (with_reducible rfl); (intro; rfl); rfl; omega; (intro hlt)))
             | ((with_reducible (show evOp _ (.binOp _ _ _ _ _) _ _ _ _)) ; first | ((with_reducible apply go_cmp); rfl; rfl; rfl; rfl) | ((with_reducible apply go_add); rfl; rfl; rfl; omega) | ((with_reducible apply go_neq_agg); rfl; rfl; rfl; rfl))
             | (((with_reducible apply go_len); rfl; rfl)))
           | ((with_reducible (show evOps _ _ _ _ _ _)); first
             | (with_reducible apply go_nil)
             | ((with_reducible apply go_pre); rfl)
             | (with_reducible apply go_pre_nil)
             | ((with_reducible apply go_suf); rfl)
             | (with_reducible apply go_suf_nil))
           | ((with_reducible (show ev _ _ _ _)); first
             | (with_reducible apply go_seq)
             | (with_reducible apply go_region)
             | (((with_reducible apply go_cond); rfl) <;> (intro h; simp only [h]; try simp only [decide_eq_true_eq, decide_eq_false_iff_not, Bool.not_eq_true', Bool.not_eq_false', Bool.not_true, Bool.not_false] at h; try exact absurd trivial h))
             | ((with_reducible apply go_order); kernel_rfl; rfl)
             | (with_reducible apply go_ret)
             | (with_reducible apply go_skipc)
             | (with_reducible apply go_block)
             | (with_reducible apply go_exit))
           | (with_reducible apply go_kseq)
           | (with_reducible apply go_ksuf)
           | (with_reducible apply go_kseq_ret)
           | (with_reducible apply go_kblock)
           | (with_reducible apply go_kblock_ret)
           | (with_reducible apply go_kblock_exit)
           | (with_reducible apply go_kseq_exit)
           | ((with_reducible apply end_bool); rfl)
           | (with_reducible rfl)
  · simp at h
  · exact ⟨by omega, trivial, entails_eq (k := 0) (ns := []) (ks := [5, 0, 1]) [] rfl (by simp) rfl⟩
end Go.Pv.Soil

open Go Go.Proofs Go.Pv
set_option maxHeartbeats 8000000
set_option maxRecDepth 100000
set_option linter.unusedSimpArgs false
set_option linter.unusedVariables false
namespace Go.Pv.Soil

def startN (g : Ground) (i : Nat) : List Share := (g.soils.take i).map fun s => ⟨s.name, 0⟩
theorem startN_len (g : Ground) {i : Nat} (h : i ≤ g.soils.length) : (startN g i).length = i := by simp [startN]; omega
theorem startN_succ (g : Ground) {i : Nat} (h : i < g.soils.length) : startN g (i + 1) = startN g i ++ [⟨g.soils[i].name, 0⟩] := by
  simp only [startN]
  rw [List.take_succ_eq_append_getElem h]
  simp only [List.map_append, List.map_cons, List.map_nil]
theorem startN_end (g : Ground) (m a : Grid) : startN g g.soils.length = cellsS g m a 0 := by simp [startN, cellsS]
theorem soils_len {g : Ground} (hg : OkG g) : g.soils.length ≤ 8 := by
  have h := hg.soils
  unfold soilsE at h
  split at h
  · omega
  · split at h <;> omega

theorem c55 (g : Ground) (hg : OkG g) (hsl : g.soils.length < 1000000000000) (m : Grid) (hm : OkGrid m) (a : Grid) (ha : OkGrid a) (hla : a.levels.length = m.levels.length) :
    Contract Try.prog 55 [.agg (encGround g), .agg (encGrid m), .agg (encGrid a)] (.ret (.fr 2 ((cellsS g m a m.levels.length).map encShare))) := by
  have hs := hm.small
  have h8 := soils_len hg
  refine contract_of mix Try.func55 rfl rfl (by rw [Try.ntmps55]; exact Nat.le_of_ble_eq_true rfl) ?_; rw [Try.results55, Try.ntmps55]; simp only [argsE, Nat.reduceAdd]
  repeat' first
           | (with_reducible apply go_op)
           | (with_reducible apply go_next)
           | ((with_reducible (show evOp _ _ _ _ _ _)); first
             | ((with_reducible (show evOp _ (.move _) _ _ _ _)) ; first | ((with_reducible apply go_mv_int); rfl; rfl) | ((with_reducible apply go_mv_nilsl); rfl; rfl))
             | ((with_reducible apply go_as))
             | (((with_reducible apply go_bx_agg); rfl; rfl; (exact Nat.le_of_ble_eq_true rfl); rfl; rfl)))
           | ((with_reducible (show evOps _ _ _ _ _ _)); first
             | (with_reducible apply go_nil))
           | ((with_reducible (show ev _ _ _ _)); first
             | (with_reducible apply go_seq)
             | (with_reducible apply go_region)
             | (with_reducible apply go_block))
           | (with_reducible apply go_kseq)
  refine go_count g.soils.length (fun i => ⟨[(7, .os 3 0 (startN g i).length), (8, .int .i64 i), (3, .op 0 0 0), (4, .op 1 0 0), (5, .op 2 0 0)], [(3, ⟨2, true, (startN g i).map encShare⟩), (0, ⟨2, true, [encGround g]⟩), (1, ⟨6, true, [encGrid m]⟩), (2, ⟨6, true, [encGrid a]⟩)], 32, 104⟩) (fun _ => True)
    (entails_eq (nx := 32) (k := 2) (ns := [(7, 3)]) (ks := [8, 3, 4, 5]) [(0, 0), (32, 1), (64, 2)] rfl (by simp; rfl) (by kernel_rfl)) trivial ?_
  intro i hi _
  by_cases hlt : i < g.soils.length
  · have hnl := startN_len g hi
    repeat' first
           | (with_reducible apply go_op)
           | (with_reducible apply go_next)
           | ((with_reducible (show evOp _ _ _ _ _ _)); first
             | ((with_reducible (show evOp _ (.move _) _ _ _ _)) ; first | ((with_reducible apply go_mv_int); rfl; rfl) | ((with_reducible apply go_mv_os); rfl; rfl))
             | ((with_reducible apply go_as))
             | ((with_reducible (show evOp _ (.load _ _) _ _ _ _)) ; first | ((with_reducible apply go_load); rfl; rfl; rfl) | ((with_reducible apply go_load_own); rfl; rfl; rfl; rfl))
             | ((with_reducible (show evOp _ (.fieldAddr _ _ _) _ _ _ _)) ; first | ((with_reducible apply go_fieldAddr); rfl; rfl) | ((with_reducible apply go_fieldAddr_own); rfl; rfl; rfl))
             | (((with_reducible apply go_index_nat); rfl; rfl; (with_reducible rfl); (intro; rfl); rfl; omega; (intro hlt)))
             | (((with_reducible apply go_cmp); rfl; rfl; rfl; rfl))
             | (((with_reducible apply go_len); rfl; rfl))
             | (((with_reducible apply go_build); rfl; rfl))
             | (((with_reducible apply go_bs1_agg); rfl; rfl; rfl; rfl; rfl; rfl)))
           | ((with_reducible (show evOps _ _ _ _ _ _)); first
             | (with_reducible apply go_nil))
           | ((with_reducible (show ev _ _ _ _)); first
             | (with_reducible apply go_seq)
             | (with_reducible apply go_region)
             | (((with_reducible apply go_cond); rfl) <;> (intro h; simp only [h]; try simp only [decide_eq_true_eq, decide_eq_false_iff_not, Bool.not_eq_true', Bool.not_eq_false', Bool.not_true, Bool.not_false] at h; try exact absurd trivial h))
             | (with_reducible apply go_skipc)
             | (with_reducible apply go_block)
             | (with_reducible apply go_exit))
           | (with_reducible apply go_kseq)
           | (with_reducible apply go_kblock_exit)
           | (with_reducible apply go_kseq_exit)
    all_goals try exact absurd hlt (by omega)
    refine go_app_map (f := encShare) (a := ⟨_, _⟩) (l := startN g i) scalShare rfl rfl rfl rfl rfl rfl (by kernel_rfl) (by kernel_rfl) (by omega) rfl ?_
    repeat' first
           | (with_reducible apply go_op)
           | (with_reducible apply go_next)
           | ((with_reducible (show evOp _ _ _ _ _ _)); first
             | ((with_reducible (show evOp _ (.move _) _ _ _ _)) ; first | ((with_reducible apply go_mv_int); rfl; rfl) | ((with_reducible apply go_mv_os); rfl; rfl))
             | ((with_reducible apply go_as))
             | (((with_reducible apply go_add); rfl; rfl; rfl; omega)))
           | ((with_reducible (show evOps _ _ _ _ _ _)); first
             | (with_reducible apply go_nil))
           | ((with_reducible (show ev _ _ _ _)); first
             | (with_reducible apply go_region))
           | (with_reducible apply go_kseq)
           | (with_reducible apply go_kblock)
    have e := startN_succ g hlt
    have el : (startN g i).length + 1 = (startN g (i + 1)).length := by rw [e]; simp
    rw [← e, el]
    exact ⟨hlt, trivial, entails_eq (nx := 32) (k := 1) (ns := []) (ks := [7, 8, 3, 4, 5]) [(3, 3), (0, 0), (1, 1), (2, 2)] rfl (by simp) (by kernel_rfl)⟩
  · have e : i = g.soils.length := by omega
    subst e
    repeat' first
           | (with_reducible apply go_op)
           | (with_reducible apply go_next)
           | ((with_reducible (show evOp _ _ _ _ _ _)); first
             | ((with_reducible (show evOp _ (.move _) _ _ _ _)) ; first | ((with_reducible apply go_mv_int); rfl; rfl) | ((with_reducible apply go_mv_os); rfl; rfl))
             | ((with_reducible apply go_as))
             | ((with_reducible (show evOp _ (.load _ _) _ _ _ _)) ; first | ((with_reducible apply go_load); rfl; rfl; rfl) | ((with_reducible apply go_load_own); rfl; rfl; rfl; rfl))
             | ((with_reducible (show evOp _ (.fieldAddr _ _ _) _ _ _ _)) ; first | ((with_reducible apply go_fieldAddr); rfl; rfl) | ((with_reducible apply go_fieldAddr_own); rfl; rfl; rfl))
             | (((with_reducible apply go_index_nat); rfl; rfl; (with_reducible rfl); (intro; rfl); rfl; omega; (intro hlt)))
             | (((with_reducible apply go_cmp); rfl; rfl; rfl; rfl))
             | (((with_reducible apply go_len); rfl; rfl))
             | (((with_reducible apply go_build); rfl; rfl))
             | (((with_reducible apply go_bs1_agg); rfl; rfl; rfl; rfl; rfl; rfl)))
           | ((with_reducible (show evOps _ _ _ _ _ _)); first
             | (with_reducible apply go_nil))
           | ((with_reducible (show ev _ _ _ _)); first
             | (with_reducible apply go_seq)
             | (with_reducible apply go_region)
             | (((with_reducible apply go_cond); rfl) <;> (intro h; simp only [h]; try simp only [decide_eq_true_eq, decide_eq_false_iff_not, Bool.not_eq_true', Bool.not_eq_false', Bool.not_true, Bool.not_false] at h; try exact absurd trivial h))
             | (with_reducible apply go_skipc)
             | (with_reducible apply go_block)
             | (with_reducible apply go_exit))
           | (with_reducible apply go_kseq)
           | (with_reducible apply go_kblock_exit)
           | (with_reducible apply go_kseq_exit)
    all_goals try exact absurd hlt (by omega)
    rw [startN_end g m a]
    refine go_count m.levels.length (fun i => ⟨[(9, .int .i64 i), (7, .os 3 0 (cellsS g m a i).length), (3, .op 0 0 0), (4, .op 1 0 0), (5, .op 2 0 0)], [(3, ⟨2, true, (cellsS g m a i).map encShare⟩), (0, ⟨2, true, [encGround g]⟩), (1, ⟨6, true, [encGrid m]⟩), (2, ⟨6, true, [encGrid a]⟩)], 32, 104⟩) (fun _ => True)
      (entails_eq (nx := 32) (k := 1) (ns := []) (ks := [9, 7, 3, 4, 5]) [(3, 3), (0, 0), (1, 1), (2, 2)] rfl (by simp) (by kernel_rfl)) trivial ?_
    intro i hi2 _
    by_cases hlt2 : i < m.levels.length
    · have hlia : i < a.levels.length := by omega
      have em := lv_get hlt2
      have ea := lv_get hlia
      have hcs := cellsS_len g m a i
      have hVB := cellsS_VB hg hm ha hla i hi2
      have c1 : Contract Try.prog 41 [.agg (encGrid m), .int .i64 i] (.ret (.bool (!decide (lv m.levels i = 30000)))) := c41L m (i : Int) (by omega) (by omega)
      have c2 : Contract Try.prog 41 [.agg (encGrid a), .int .i64 i] (.ret (.bool (!decide (lv a.levels i = 30000)))) := c41L a (i : Int) (by omega) (by omega)
      have c103i := c103 m hm i hlt2
      have h51 := c51 g hg (centreE m i) (centre_ok hm hlt2) m.levels[i] a.levels[i]
      have hnx : cellsS g m a (i + 1) = if lv m.levels i ≠ 30000 ∧ lv a.levels i ≠ 30000 then accP g m.side (cellsS g m a i) (colAt g m a i) (colAt g m a i).length else cellsS g m a i := rfl
      have hca : colAt g m a i = columnE g (centreE m i) m.levels[i] a.levels[i] := by unfold colAt; rw [em, ea]
      by_cases hk : lv m.levels i ≠ 30000 ∧ lv a.levels i ≠ 30000
      · rw [if_pos hk] at hnx
        rw [decide_eq_false hk.1] at c1
        rw [decide_eq_false hk.2] at c2
        have hcp := colAt_part hg hm ha hla hlt2 hk
        have hcl : (colAt g m a i).length ≤ 12 := col_len hg _ _ _
        have hcq : ∀ q ∈ colAt g m a i, 0 ≤ ofName g.soils q.soil ∧ (ofName g.soils q.soil).toNat < g.soils.length := fun q hq => by
          have := col_part hg hq
          exact ⟨this.2.2.2.1, this.2.2.2.2⟩
        have hac := fun j => accP_len g m.side (cellsS g m a i) (colAt g m a i) j
        have hav := fun j => accP_VB (g := g) (C := colAt g m a i) hm.bds.2.1 hVB hcp j
        have has := fun {j} h => accP_succ g m.side (cellsS g m a i) (C := colAt g m a i) (j := j) h
        rw [← hca] at h51
        repeat' first
           | (with_reducible apply go_op)
           | (with_reducible apply go_next)
           | ((with_reducible (show evOp _ _ _ _ _ _)); first
             | ((with_reducible (show evOp _ (.move _) _ _ _ _)) ; first | ((with_reducible apply go_mv_int); rfl; rfl) | ((with_reducible apply go_mv_bool); rfl; rfl) | ((with_reducible apply go_mv_os); rfl; rfl))
             | ((with_reducible apply go_as))
             | ((with_reducible (show evOp _ (.load _ _) _ _ _ _)) ; first | ((with_reducible apply go_ld_agg); rfl; rfl; rfl; rfl) | ((with_reducible apply go_load); rfl; rfl; rfl) | ((with_reducible apply go_load_own); rfl; rfl; rfl; rfl))
             | (((with_reducible apply go_fieldAddr_own); rfl; rfl; rfl))
             | (((with_reducible apply go_index_nat); rfl; rfl; (with_reducible rfl); (intro; rfl); rfl; omega; (intro hlt)))
             | (((with_reducible apply go_cmp); rfl; rfl; rfl; rfl))
             | ((with_reducible (show evOp _ (.call _) _ _ _ _)) ; first | ((with_reducible apply go_len); rfl; rfl) | ((with_reducible apply go_fn_bool); rfl; (exact c1); rfl) | ((with_reducible apply go_fn_bool); rfl; (exact c2); rfl) | ((with_reducible apply go_fn_plain); rfl; (exact c103i); rfl; (exact Nat.le_of_ble_eq_true rfl); rfl) | ((with_reducible apply go_fn_fr); rfl; (exact h51); (exact scalPart); rfl))
             | (((with_reducible apply go_not); rfl; rfl))
             | (((with_reducible apply go_pick); rfl; rfl; rfl)))
           | ((with_reducible (show evOps _ _ _ _ _ _)); first
             | (with_reducible apply go_nil)
             | ((with_reducible apply go_run); rfl; rfl)
             | ((with_reducible apply go_pre); rfl)
             | (with_reducible apply go_pre_nil)
             | ((with_reducible apply go_suf); rfl)
             | (with_reducible apply go_suf_nil))
           | ((with_reducible (show ev _ _ _ _)); first
             | (with_reducible apply go_seq)
             | (with_reducible apply go_region)
             | ((with_reducible apply go_cond_f); rfl; rfl)
             | (((with_reducible apply go_cond); rfl) <;> (intro h; simp only [h]; try simp only [decide_eq_true_eq, decide_eq_false_iff_not, Bool.not_eq_true', Bool.not_eq_false', Bool.not_true, Bool.not_false] at h; try exact absurd trivial h))
             | ((with_reducible apply go_order); kernel_rfl; rfl)
             | (with_reducible apply go_ret)
             | (with_reducible apply go_skipc)
             | (with_reducible apply go_block)
             | (with_reducible apply go_exit))
           | (with_reducible apply go_kseq)
           | (with_reducible apply go_ksuf)
           | (with_reducible apply go_kblock_exit)
           | (with_reducible apply go_kseq_exit)
        all_goals try exact absurd hlt2 (by omega)
        clear hca h51
        generalize colAt g m a i = C at *
        generalize cellsS g m a i = L at *
        refine go_count C.length (fun j => ⟨[(11, .int .i64 j), (10, .os 4 0 C.length), (7, .os 3 0 L.length), (9, .int .i64 i), (3, .op 0 0 0), (4, .op 1 0 0), (5, .op 2 0 0)], [(4, ⟨3, true, C.map encPart⟩), (3, ⟨2, true, (accP g m.side L C j).map encShare⟩), (0, ⟨2, true, [encGround g]⟩), (1, ⟨6, true, [encGrid m]⟩), (2, ⟨6, true, [encGrid a]⟩)], 32, 104⟩) (fun _ => True)
          (entails_eq (nx := 32) (k := 1) (ns := []) (ks := [11, 10, 7, 9, 3, 4, 5]) [(960, 4), (3, 3), (0, 0), (1, 1), (2, 2)] rfl (by simp) (by kernel_rfl)) trivial ?_
        intro j hj _
        by_cases hlj : j < C.length
        · have hq := hcq C[j] (List.getElem_mem hlj)
          have hd := hcp C[j] (List.getElem_mem hlj)
          have hv := vol_bd hd hm.bds.2.1
          obtain ⟨k, ek⟩ := Int.eq_ofNat_of_zero_le hq.1
          have hkk : (ofName g.soils C[j].soil).toNat = k := by omega
          have hacj := hac j
          have hkL : k < (accP g m.side L C j).length := by omega
          have hvk := hav j k hkL
          have hsj := has hlj
          rw [hkk, addS_at hkL] at hsj
          have h84 : Contract Try.prog 84 [.sl (g.soils.map encSoil), .str C[j].soil] (.ret (.int .i64 k)) := by
            have := c84 g.soils hsl C[j].soil
            rwa [ek] at this
          repeat' first
           | (with_reducible apply go_op)
           | (with_reducible apply go_next)
           | ((with_reducible (show evOp _ _ _ _ _ _)); first
             | ((with_reducible (show evOp _ (.move _) _ _ _ _)) ; first | ((with_reducible apply go_mv_int); rfl; rfl) | ((with_reducible apply go_mv_os); rfl; rfl))
             | ((with_reducible apply go_as))
             | ((with_reducible (show evOp _ (.load _ _) _ _ _ _)) ; first | ((with_reducible apply go_load_om); rfl; rfl; rfl; rfl; rotate_left; assumption) | ((with_reducible apply go_load_own); rfl; rfl; rfl; rfl))
             | (((with_reducible apply go_fieldAddr_own); rfl; rfl; rfl))
             | (((with_reducible apply go_index_om); rfl; rfl; rfl; (with_reducible rfl); rfl; rfl; omega; (intro hlt)))
             | ((with_reducible (show evOp _ (.binOp _ _ _ _ _) _ _ _ _)) ; first | ((with_reducible apply go_cmp); rfl; rfl; rfl; rfl) | ((with_reducible apply go_add); rfl; rfl; rfl; omega) | ((with_reducible apply go_sub); rfl; rfl; rfl; omega) | ((with_reducible apply go_mul); rfl; rfl; rfl; omega))
             | ((with_reducible (show evOp _ (.call _) _ _ _ _)) ; first | ((with_reducible apply go_len_own); rfl; rfl; rfl) | ((with_reducible apply go_fn_int); rfl; (exact h84); rfl)))
           | ((with_reducible (show evOps _ _ _ _ _ _)); first
             | (with_reducible apply go_nil)
             | ((with_reducible apply go_pre); rfl)
             | ((with_reducible apply go_pre_stop); rfl)
             | (with_reducible apply go_pre_nil)
             | ((with_reducible apply go_suf); rfl)
             | ((with_reducible apply go_suf_stop); rfl)
             | (with_reducible apply go_suf_nil))
           | ((with_reducible (show ev _ _ _ _)); first
             | (with_reducible apply go_seq)
             | (with_reducible apply go_region)
             | (((with_reducible apply go_cond); rfl) <;> (intro h; simp only [h]; try simp only [decide_eq_true_eq, decide_eq_false_iff_not, Bool.not_eq_true', Bool.not_eq_false', Bool.not_true, Bool.not_false] at h; try exact absurd trivial h))
             | ((with_reducible apply go_order); kernel_rfl; rfl)
             | (with_reducible apply go_skipc)
             | (with_reducible apply go_block)
             | (with_reducible apply go_exit))
           | (with_reducible apply go_kseq)
           | (with_reducible apply go_ksuf)
           | (with_reducible apply go_kblock)
           | (with_reducible apply go_kblock_exit)
           | (with_reducible apply go_kseq_exit)
          all_goals try exact absurd hlj (by omega)
          refine go_store_om (f := encShare) (l := accP g m.side L C j) (a := ⟨(accP g m.side L C j)[k].soil, (accP g m.side L C j)[k].vol + (C[j].top - C[j].bottom) * m.side * m.side⟩) rfl rfl rfl hkL rfl rfl rfl rfl (Nat.le_of_ble_eq_true rfl) rfl ?_
          repeat' first
           | (with_reducible apply go_op)
           | (with_reducible apply go_next)
           | ((with_reducible (show evOp _ _ _ _ _ _)); first
             | (((with_reducible apply go_mv_int); rfl; rfl))
             | ((with_reducible apply go_as))
             | (((with_reducible apply go_add); rfl; rfl; rfl; omega)))
           | ((with_reducible (show evOps _ _ _ _ _ _)); first
             | (with_reducible apply go_nil))
           | ((with_reducible (show ev _ _ _ _)); first
             | (with_reducible apply go_region))
           | (with_reducible apply go_kseq)
           | (with_reducible apply go_kblock)
          refine ⟨‹j < C.length›, trivial, ?_⟩
          rw [hsj]
          exact entails_eq (nx := 32) (k := 1) (ns := []) (ks := [11, 10, 7, 9, 3, 4, 5]) [(4, 4), (3, 3), (0, 0), (1, 1), (2, 2)] rfl (by simp) (by kernel_rfl)
        · have e : j = C.length := by omega
          repeat' first
           | (with_reducible apply go_op)
           | (with_reducible apply go_next)
           | ((with_reducible (show evOp _ _ _ _ _ _)); first
             | ((with_reducible (show evOp _ (.move _) _ _ _ _)) ; first | ((with_reducible apply go_mv_int); rfl; rfl) | ((with_reducible apply go_mv_os); rfl; rfl))
             | ((with_reducible apply go_as))
             | ((with_reducible (show evOp _ (.load _ _) _ _ _ _)) ; first | ((with_reducible apply go_load_om); rfl; rfl; rfl; rfl; rotate_left; assumption) | ((with_reducible apply go_load_own); rfl; rfl; rfl; rfl))
             | (((with_reducible apply go_fieldAddr_own); rfl; rfl; rfl))
             | (((with_reducible apply go_index_om); rfl; rfl; rfl; (with_reducible rfl); rfl; rfl; omega; (intro hlt)))
             | ((with_reducible (show evOp _ (.binOp _ _ _ _ _) _ _ _ _)) ; first | ((with_reducible apply go_cmp); rfl; rfl; rfl; rfl) | ((with_reducible apply go_add); rfl; rfl; rfl; omega))
             | (((with_reducible apply go_len_own); rfl; rfl; rfl)))
           | ((with_reducible (show evOps _ _ _ _ _ _)); first
             | (with_reducible apply go_nil)
             | ((with_reducible apply go_pre); rfl))
           | ((with_reducible (show ev _ _ _ _)); first
             | (with_reducible apply go_seq)
             | (with_reducible apply go_region)
             | (((with_reducible apply go_cond); rfl) <;> (intro h; simp only [h]; try simp only [decide_eq_true_eq, decide_eq_false_iff_not, Bool.not_eq_true', Bool.not_eq_false', Bool.not_true, Bool.not_false] at h; try exact absurd trivial h))
             | ((with_reducible apply go_order); kernel_rfl; rfl)
             | (with_reducible apply go_skipc)
             | (with_reducible apply go_block)
             | (with_reducible apply go_exit))
           | (with_reducible apply go_kseq)
           | (with_reducible apply go_kblock)
           | (with_reducible apply go_kblock_exit)
           | (with_reducible apply go_kseq_exit)
          all_goals try exact absurd hlj (by omega)
          refine ⟨hlt2, trivial, ?_⟩
          rw [hnx, ← e, hac j]
          exact entails_eq (nx := 32) (k := 1) (ns := []) (ks := [9, 7, 3, 4, 5]) [(3, 3), (0, 0), (1, 1), (2, 2)] rfl (by simp) (by kernel_rfl)
      · rw [if_neg hk] at hnx
        repeat' first
           | (with_reducible apply go_op)
           | (with_reducible apply go_next)
           | ((with_reducible (show evOp _ _ _ _ _ _)); first
             | ((with_reducible (show evOp _ (.move _) _ _ _ _)) ; first | ((with_reducible apply go_mv_int); rfl; rfl) | ((with_reducible apply go_mv_bool); rfl; rfl) | ((with_reducible apply go_mv_os); rfl; rfl))
             | ((with_reducible apply go_as))
             | ((with_reducible (show evOp _ (.load _ _) _ _ _ _)) ; first | ((with_reducible apply go_ld_agg); rfl; rfl; rfl; rfl) | ((with_reducible apply go_load); rfl; rfl; rfl) | ((with_reducible apply go_load_own); rfl; rfl; rfl; rfl))
             | (((with_reducible apply go_fieldAddr_own); rfl; rfl; rfl))
             | (((with_reducible apply go_index_nat); rfl; rfl; (with_reducible rfl); (intro; rfl); rfl; omega; (intro hlt)))
             | ((with_reducible (show evOp _ (.binOp _ _ _ _ _) _ _ _ _)) ; first | ((with_reducible apply go_cmp); rfl; rfl; rfl; rfl) | ((with_reducible apply go_add); rfl; rfl; rfl; omega))
             | ((with_reducible (show evOp _ (.call _) _ _ _ _)) ; first | ((with_reducible apply go_len); rfl; rfl) | ((with_reducible apply go_fn_bool); rfl; (exact c1); rfl) | ((with_reducible apply go_fn_bool); rfl; (exact c2); rfl) | ((with_reducible apply go_fn_plain); rfl; (exact c103i); rfl; (exact Nat.le_of_ble_eq_true rfl); rfl))
             | (((with_reducible apply go_not); rfl; rfl))
             | (((with_reducible apply go_pick); rfl; rfl; rfl)))
           | ((with_reducible (show evOps _ _ _ _ _ _)); first
             | (with_reducible apply go_nil)
             | ((with_reducible apply go_run); rfl; rfl)
             | ((with_reducible apply go_pass); rfl; rfl; rfl)
             | (((with_reducible apply go_guard); rfl) <;> (intro h; simp only [h, Bool.not_true, Bool.not_false]; (try with_reducible (refine ⟨rfl, ?_⟩)); try simp only [decide_eq_true_eq, decide_eq_false_iff_not, Bool.not_eq_true', Bool.not_eq_false', Bool.not_true, Bool.not_false] at h; try exact absurd trivial h))
             | ((with_reducible apply go_pre); rfl))
           | ((with_reducible (show ev _ _ _ _)); first
             | (with_reducible apply go_seq)
             | (with_reducible apply go_region)
             | ((with_reducible apply go_cond_t); rfl; rfl)
             | (((with_reducible apply go_cond); rfl) <;> (intro h; simp only [h]; try simp only [decide_eq_true_eq, decide_eq_false_iff_not, Bool.not_eq_true', Bool.not_eq_false', Bool.not_true, Bool.not_false] at h; try exact absurd trivial h))
             | ((with_reducible apply go_order); kernel_rfl; rfl)
             | (with_reducible apply go_ret)
             | (with_reducible apply go_skipc)
             | (with_reducible apply go_block)
             | (with_reducible apply go_exit))
           | (with_reducible apply go_kseq)
           | (with_reducible apply go_kblock_exit)
           | (with_reducible apply go_kseq_exit)
        all_goals first
          | exact absurd hlt2 (by omega)
          | exact absurd (And.intro ‹¬lv m.levels i = 30000› ‹¬lv a.levels i = 30000›) hk
          | (refine ⟨‹i < m.levels.length›, trivial, ?_⟩; rw [hnx]; exact entails_eq (nx := 32) (k := 1) (ns := []) (ks := [9, 7, 3, 4, 5]) [(3, 3), (0, 0), (1, 1), (2, 2)] rfl (by simp) (by kernel_rfl))
          | trace_state
    · have e : i = m.levels.length := by omega
      repeat' first
           | (with_reducible apply go_op)
           | (with_reducible apply go_next)
           | ((with_reducible (show evOp _ _ _ _ _ _)); first
             | ((with_reducible (show evOp _ (.move _) _ _ _ _)) ; first | ((with_reducible apply go_mv_int); rfl; rfl) | ((with_reducible apply go_mv_os); rfl; rfl))
             | ((with_reducible apply go_as))
             | ((with_reducible (show evOp _ (.load _ _) _ _ _ _)) ; first | ((with_reducible apply go_ld_agg); rfl; rfl; rfl; rfl) | ((with_reducible apply go_load_own); rfl; rfl; rfl; rfl))
             | (((with_reducible apply go_fieldAddr_own); rfl; rfl; rfl))
             | (((with_reducible apply go_cmp); rfl; rfl; rfl; rfl))
             | (((with_reducible apply go_len); rfl; rfl)))
           | ((with_reducible (show evOps _ _ _ _ _ _)); first
             | (with_reducible apply go_nil))
           | ((with_reducible (show ev _ _ _ _)); first
             | (with_reducible apply go_seq)
             | (with_reducible apply go_region)
             | (((with_reducible apply go_cond); rfl) <;> (intro h; simp only [h]; try simp only [decide_eq_true_eq, decide_eq_false_iff_not, Bool.not_eq_true', Bool.not_eq_false', Bool.not_true, Bool.not_false] at h; try exact absurd trivial h))
             | (with_reducible apply go_ret)
             | (with_reducible apply go_skipc)
             | (with_reducible apply go_block)
             | (with_reducible apply go_exit))
           | (with_reducible apply go_kseq)
           | (with_reducible apply go_kblock_exit)
           | (with_reducible apply go_kseq_exit)
      all_goals try exact absurd hlt2 (by omega)
      rw [← e]
      exact end_frn rfl rfl rfl rfl
end Go.Pv.Soil

import Derived.Test.YtdedpndkohfgbaaProg
import Derived.Test.YtdedpndkohfgbaaQF
import Derived.KernelRfl
/- Part of the proofs over Ytdedpndkohfgbaa: S18, S19, S20. -/
set_option linter.unusedVariables false
set_option linter.unusedSimpArgs false
set_option linter.unnecessarySimpa false
open Go Go.Proofs Go.Pv
set_option maxHeartbeats 1000000
set_option maxRecDepth 100000
set_option linter.unusedSimpArgs false
set_option linter.unusedVariables false
namespace Go.Pv.Soil

def laySoil (b : Boring) (k : Nat) : ByteArray := match b.layers[k]? with
  | some l => l.soil
  | none => .empty

theorem c49 (g : Ground) (hg : OkG g) (p : Pt) (hp : ptOK p = true) (level : Int) : Contract Try.prog 49 [.agg (encGround g), .agg (encPt p), .int .i64 level] (.ret (.str (soilAt g p level))) := by
  have hn := near_lt (p := p) hg.n.1
  have hll := (hg.bor _ hn).len
  have e0 : laySoil g.borings[nearE g p] 0 = (g.borings[nearE g p].layers[(0 : Int).toNat]'(by simp; omega)).soil := by
    show _ = (g.borings[nearE g p].layers[0]'(by omega)).soil
    simp only [laySoil, List.getElem?_eq_getElem (by omega : 0 < g.borings[nearE g p].layers.length)]
  refine contract_of mix Try.func49 rfl rfl (by rw [Try.ntmps49]; exact Nat.le_of_ble_eq_true rfl) ?_; rw [Try.results49, Try.ntmps49]; simp only [argsE, Nat.reduceAdd]
  repeat' first
           | (with_reducible apply go_op)
           | (with_reducible apply go_next)
           | ((with_reducible (show evOp _ _ _ _ _ _)); first
             | ((with_reducible (show evOp _ (.move _) _ _ _ _)) ; first | ((with_reducible apply go_mv_int); rfl; rfl) | ((with_reducible apply go_mv_sl); rfl; rfl) | ((with_reducible apply go_mv_str); rfl; rfl))
             | ((with_reducible apply go_as))
             | ((with_reducible (show evOp _ (.load _ _) _ _ _ _)) ; first | ((with_reducible apply go_ld_agg); rfl; rfl; rfl; rfl) | ((with_reducible apply go_load); rfl; rfl; rfl) | ((with_reducible apply go_load_own); rfl; rfl; rfl; rfl))
             | ((with_reducible (show evOp _ (.fieldAddr _ _ _) _ _ _ _)) ; first | ((with_reducible apply go_fieldAddr); rfl; rfl) | ((with_reducible apply go_fieldAddr_own); rfl; rfl; rfl))
             | ((with_reducible (show evOp _ (.indexAddr _ _ _) _ _ _ _)) ; first | ((with_reducible apply go_index_nat); rfl; rfl; (with_reducible rfl); (intro; rfl); rfl; omega; (intro hlt)) | ((with_reducible apply go_index); rfl; rfl; (intro; rfl); rfl; omega; intro hlt))
             | (((with_reducible apply go_fn_int); rfl; (exact c47 g hg p hp); rfl))
             | (((with_reducible apply go_bx_agg); rfl; rfl; (exact Nat.le_of_ble_eq_true rfl); rfl; rfl)))
           | ((with_reducible (show evOps _ _ _ _ _ _)); first
             | (with_reducible apply go_nil)
             | ((with_reducible apply go_pre); rfl)
             | (with_reducible apply go_pre_nil)
             | ((with_reducible apply go_suf); rfl)
             | (with_reducible apply go_suf_nil))
           | ((with_reducible (show evG _ _ _ _ _)); first
             | (with_reducible apply go_seq)
             | (with_reducible apply go_region)
             | ((with_reducible apply go_order); kernel_rfl; rfl)
             | (with_reducible apply go_block))
           | (with_reducible apply go_kseq)
           | (with_reducible apply go_ksuf)
  rw [← e0]
  refine go_count (g.borings[nearE g p].layers.length) (fun i => ⟨[(9, .int .i64 i), (2, .int .i64 level), (7, .sl (g.borings[nearE g p].layers.map encLayer)), (8, .str (laySoil g.borings[nearE g p] (lastE (topAt g.borings[nearE g p] level) i)))], [], 64, 41⟩) (fun i => True) (entails_eq (k := 0) (ns := []) (ks := [9, 2, 7, 8]) [] rfl (by simp) rfl) trivial ?_
  intro i hi hC
  repeat' first
           | (with_reducible apply go_op)
           | (with_reducible apply go_next)
           | ((with_reducible (show evOp _ _ _ _ _ _)); first
             | ((with_reducible (show evOp _ (.move _) _ _ _ _)) ; first | ((with_reducible apply go_mv_int); rfl; rfl) | ((with_reducible apply go_mv_sl); rfl; rfl) | ((with_reducible apply go_mv_str); rfl; rfl))
             | ((with_reducible apply go_as))
             | (((with_reducible apply go_load); rfl; rfl; rfl))
             | (((with_reducible apply go_fieldAddr); rfl; rfl))
             | (((with_reducible apply go_index_nat); rfl; rfl; (with_reducible rfl); (intro; rfl); rfl; omega; (intro hlt)))
             | ((with_reducible (show evOp _ (.binOp _ _ _ _ _) _ _ _ _)) ; first | ((with_reducible apply go_cmp); rfl; rfl; rfl; rfl) | ((with_reducible apply go_add); rfl; rfl; rfl; omega))
             | (((with_reducible apply go_len); rfl; rfl)))
           | ((with_reducible (show evOps _ _ _ _ _ _)); first
             | (with_reducible apply go_nil))
           | ((with_reducible (show evG _ _ _ _ _)); first
             | (with_reducible apply go_seq)
             | (with_reducible apply go_region)
             | (((with_reducible apply go_cond); rfl) <;> (intro h; simp only [h]; try simp only [decide_eq_true_eq, decide_eq_false_iff_not, Bool.not_eq_true', Bool.not_eq_false', Bool.not_true, Bool.not_false] at h; try exact absurd trivial h))
             | (with_reducible apply go_ret)
             | (with_reducible apply go_skipc)
             | (with_reducible apply go_block)
             | (with_reducible apply go_exit))
           | (with_reducible apply go_kseq)
           | (with_reducible apply go_kblock)
           | (with_reducible apply go_kblock_exit)
           | (with_reducible apply go_kseq_exit)
           | ((with_reducible apply end_str); rfl)
  · have h2 : i < g.borings[nearE g p].layers.length := by omega
    refine ⟨h2, trivial, ?_⟩
    have e : lastE (topAt g.borings[nearE g p] level) (i + 1) = i := by
      unfold lastE; rw [if_pos (by rw [topAt_at h2]; simpa using h)]
    have e2 : laySoil g.borings[nearE g p] i = (g.borings[nearE g p].layers[i]).soil := by simp only [laySoil, List.getElem?_eq_getElem h2]
    rw [e, e2]
    exact entails_eq (k := 0) (ns := []) (ks := [9, 2, 7, 8]) [] rfl (by simp) rfl
  · have h2 : i < g.borings[nearE g p].layers.length := by omega
    refine ⟨h2, trivial, ?_⟩
    have e : lastE (topAt g.borings[nearE g p] level) (i + 1) = lastE (topAt g.borings[nearE g p] level) i := by
      show (if _ then _ else _) = _
      rw [if_neg (by rw [topAt_at h2]; simpa using h)]
    rw [e]
    exact entails_eq (k := 0) (ns := []) (ks := [9, 2, 7, 8]) [] rfl (by simp) rfl
  · have e : i = g.borings[nearE g p].layers.length := by omega
    subst e
    simp only [soilAt, List.getElem?_eq_getElem hn, laySoil, layerE]
    rfl

end Go.Pv.Soil

open Go Go.Proofs Go.Pv
set_option maxHeartbeats 1000000
set_option maxRecDepth 100000
set_option linter.unusedSimpArgs false
set_option linter.unusedVariables false
namespace Go.Pv.Soil

structure Part where
  soil : ByteArray
  top : Int
  bottom : Int
def encPart (p : Part) : List D := [.str p.soil, .int .i64 p.top, .int .i64 p.bottom]
theorem scalPart : ScalF encPart 3 := fun _ => ⟨rfl, rfl⟩

def topOf (b : Boring) (i : Nat) (d : Int) : Int := match b.layers[i]? with
  | some l => l.top
  | none => d
def partAt (b : Boring) (f t : Int) (i : Nat) : Part := ⟨laySoil b i, if 0 < i then min f (topOf b i f) else f, if i + 1 < b.layers.length then max t (topOf b (i + 1) t) else t⟩
/-- The parts of a column by the first n layers. -/
def colE (b : Boring) (f t : Int) : Nat → List Part
  | 0 => []
  | n + 1 => if (partAt b f t n).bottom < (partAt b f t n).top then colE b f t n ++ [partAt b f t n] else colE b f t n
def columnE (g : Ground) (p : Pt) (f t : Int) : List Part := match g.borings[nearE g p]? with
  | some b => colE b f t b.layers.length
  | none => []
theorem colE_len (b : Boring) (f t : Int) : ∀ n, (colE b f t n).length ≤ n
  | 0 => Nat.le_refl _
  | n + 1 => by
    have := colE_len b f t n
    simp only [colE]
    split <;> simp <;> omega

theorem part_top {b : Boring} {f t : Int} {i : Nat} (hi : i < b.layers.length) : (partAt b f t i).top = if 0 < i then min f b.layers[i].top else f := by
  simp only [partAt, topOf, List.getElem?_eq_getElem hi]
theorem part_bot {b : Boring} {f t : Int} {i : Nat} : (partAt b f t i).bottom = if h : i + 1 < b.layers.length then max t b.layers[i + 1].top else t := by
  simp only [partAt, topOf]
  split
  · rename_i h; rw [List.getElem?_eq_getElem h]
  · rfl
theorem part_soil {b : Boring} {f t : Int} {i : Nat} (hi : i < b.layers.length) : (partAt b f t i).soil = b.layers[i].soil := by
  simp only [partAt, laySoil, List.getElem?_eq_getElem hi]
theorem colE_yes {b : Boring} {f t X Y : Int} {i : Nat} (h : Y < X) (hi : i < b.layers.length) (hx : (partAt b f t i).top = X) (hy : (partAt b f t i).bottom = Y) : colE b f t i ++ [⟨b.layers[i].soil, X, Y⟩] = colE b f t (i + 1) := by
  subst hx hy
  rw [← part_soil (f := f) (t := t) hi]
  show _ = if _ then _ else _
  rw [if_pos h]
theorem colE_no {b : Boring} {f t X Y : Int} {i : Nat} (h : ¬ Y < X) (hx : (partAt b f t i).top = X) (hy : (partAt b f t i).bottom = Y) : colE b f t i = colE b f t (i + 1) := by
  subst hx hy
  show _ = if _ then _ else _
  rw [if_neg h]

theorem c97 (g : Ground) (hg : OkG g) (p : Pt) (f t : Int) : Contract Try.prog 97 [.agg (encGround g), .agg (encPt p), .int .i64 f, .int .i64 t] (.ret (.fr 3 ((columnE g p f t).map encPart))) := by
  have hn := near_lt (p := p) hg.n.1
  have hb20 := hg.n
  have hll := (hg.bor _ hn).len
  refine contract_of mix Try.func97 rfl rfl (by rw [Try.ntmps97]; exact Nat.le_of_ble_eq_true rfl) ?_; rw [Try.results97, Try.ntmps97]; simp only [argsE, Nat.reduceAdd]
  repeat' first
           | (with_reducible apply go_op)
           | (with_reducible apply go_next)
           | ((with_reducible (show evOp _ _ _ _ _ _)); first
             | ((with_reducible (show evOp _ (.move _) _ _ _ _)) ; first | ((with_reducible apply go_mv_int); rfl; rfl) | ((with_reducible apply go_mv_nilsl); rfl; rfl))
             | ((with_reducible apply go_as))
             | ((with_reducible (show evOp _ (.load _ _) _ _ _ _)) ; first | ((with_reducible apply go_ld_ptr); rfl; rfl; rfl) | ((with_reducible apply go_ld_agg); rfl; rfl; rfl; rfl) | ((with_reducible apply go_load_own); rfl; rfl; rfl; rfl))
             | (((with_reducible apply go_fieldAddr_own); rfl; rfl; rfl))
             | (((with_reducible apply go_index_nat); rfl; rfl; (with_reducible rfl); (intro; rfl); rfl; omega; (intro hlt)))
             | ((with_reducible (show evOp _ (.call _) _ _ _ _)) ; first | ((with_reducible apply go_len); rfl; rfl) | ((with_reducible apply go_fn_int); rfl; (exact c98 g (by omega) p); rfl))
             | (((with_reducible apply go_st_agg); rfl; rfl; rfl; rfl; rfl; rfl; rfl))
             | (((with_reducible apply go_bx_agg); rfl; rfl; (exact Nat.le_of_ble_eq_true rfl); rfl; rfl))
             | (((with_reducible apply go_alloc); rfl; rfl; rfl)))
           | ((with_reducible (show evOps _ _ _ _ _ _)); first
             | (with_reducible apply go_nil)
             | ((with_reducible apply go_pre); rfl)
             | ((with_reducible apply go_pre_stop); rfl)
             | ((with_reducible apply go_suf); rfl)
             | ((with_reducible apply go_suf_stop); rfl))
           | ((with_reducible (show evG _ _ _ _ _)); first
             | (with_reducible apply go_seq)
             | (with_reducible apply go_region)
             | ((with_reducible apply go_order); kernel_rfl; rfl)
             | (with_reducible apply go_block))
           | (with_reducible apply go_kseq)
           | (with_reducible apply go_ksuf)
  refine go_count g.borings[nearE g p].layers.length (fun i => ⟨[(10, .os 1 0 (colE g.borings[nearE g p] f t i).length), (26, .int .i64 i), (24, .sl (g.borings[nearE g p].layers.map encLayer)), (25, .int .i64 g.borings[nearE g p].layers.length), (9, .op 3 0 0), (2, .int .i64 f), (3, .int .i64 t)], [(1, ⟨3, true, (colE g.borings[nearE g p] f t i).map encPart⟩), (3, ⟨4, false, [encBor g.borings[nearE g p]]⟩)], 32, 67⟩) (fun i => True) (entails_eq (nx := 32) (k := 3) (ns := [(10, 1)]) (ks := [26, 24, 25, 9, 2, 3]) [(352, 3)] rfl (by simp; rfl) rfl) trivial ?_
  intro i hi hC
  repeat' first
           | (with_reducible apply go_op)
           | (with_reducible apply go_next)
           | ((with_reducible (show evOp _ _ _ _ _ _)); first
             | ((with_reducible (show evOp _ (.move _) _ _ _ _)) ; first | ((with_reducible apply go_mv_int); rfl; rfl) | ((with_reducible apply go_mv_os); rfl; rfl))
             | ((with_reducible apply go_as))
             | ((with_reducible (show evOp _ (.load _ _) _ _ _ _)) ; first | ((with_reducible apply go_ld_ptr); rfl; rfl; rfl) | ((with_reducible apply go_load); rfl; rfl; rfl) | ((with_reducible apply go_load_own); rfl; rfl; rfl; rfl))
             | ((with_reducible (show evOp _ (.fieldAddr _ _ _) _ _ _ _)) ; first | ((with_reducible apply go_fieldAddr); rfl; rfl) | ((with_reducible apply go_fieldAddr_own); rfl; rfl; rfl))
             | ((with_reducible (show evOp _ (.indexAddr _ _ _) _ _ _ _)) ; first | ((with_reducible apply go_index_nat); rfl; rfl; (with_reducible rfl); (intro; rfl); rfl; omega; (intro hlt)) | ((with_reducible apply go_index); rfl; rfl; (intro; rfl); rfl; omega; intro hlt))
             | ((with_reducible (show evOp _ (.binOp _ _ _ _ _) _ _ _ _)) ; first | ((with_reducible apply go_cmp); rfl; rfl; rfl; rfl) | ((with_reducible apply go_add); rfl; rfl; rfl; omega))
             | ((with_reducible (show evOp _ (.call _) _ _ _ _)) ; first | ((with_reducible apply go_len); rfl; rfl) | ((with_reducible apply go_min); rfl; rfl; rfl) | ((with_reducible apply go_max); rfl; rfl; rfl))
             | (((with_reducible apply go_st_agg); rfl; rfl; rfl; rfl; rfl; rfl; rfl))
             | (((with_reducible apply go_bd3_sii); rfl; rfl; rfl; rfl; rfl))
             | (((with_reducible apply go_alloc); rfl; rfl; rfl))
             | (((with_reducible apply go_bs1_agg); rfl; rfl; rfl; rfl; rfl; rfl)))
           | ((with_reducible (show evOps _ _ _ _ _ _)); first
             | (with_reducible apply go_nil))
           | ((with_reducible (show evG _ _ _ _ _)); first
             | (with_reducible apply go_seq)
             | (with_reducible apply go_region)
             | (((with_reducible apply go_cond); rfl) <;> (intro h; simp only [h]; try simp only [decide_eq_true_eq, decide_eq_false_iff_not, Bool.not_eq_true', Bool.not_eq_false', Bool.not_true, Bool.not_false] at h; try exact absurd trivial h))
             | (with_reducible apply go_ret)
             | (with_reducible apply go_skipc)
             | (with_reducible apply go_block)
             | (with_reducible apply go_exit))
           | (with_reducible apply go_kseq)
           | (with_reducible apply go_kblock)
           | (with_reducible apply go_kblock_exit)
           | (with_reducible apply go_kseq_exit)
  all_goals first
    | (refine go_app_map (f := encPart) (a := ⟨_, _, _⟩) (l := colE g.borings[nearE g p] f t i) scalPart rfl rfl rfl rfl rfl rfl (by kernel_rfl) (by kernel_rfl) (by have := colE_len g.borings[nearE g p] f t i; omega) rfl ?_)
    | skip
  repeat' first
           | (with_reducible apply go_op)
           | (with_reducible apply go_next)
           | ((with_reducible (show evOp _ _ _ _ _ _)); first
             | ((with_reducible (show evOp _ (.move _) _ _ _ _)) ; first | ((with_reducible apply go_mv_int); rfl; rfl) | ((with_reducible apply go_mv_os); rfl; rfl))
             | ((with_reducible apply go_as))
             | (((with_reducible apply go_add); rfl; rfl; rfl; omega)))
           | ((with_reducible (show evOps _ _ _ _ _ _)); first
             | (with_reducible apply go_nil))
           | ((with_reducible (show evG _ _ _ _ _)); first
             | (with_reducible apply go_region))
           | (with_reducible apply go_kseq)
           | (with_reducible apply go_kblock)
  all_goals try
    have h2 : i < g.borings[nearE g p].layers.length := by omega
    have e1 : ((i : Int) + 1).toNat = i + 1 := by omega
    simp only [e1] at *
    refine ⟨h2, trivial, ?_⟩
    first
      | (have e := colE_yes (f := f) (t := t) h h2 (by rw [part_top h2]; first | rw [if_pos (by omega)] | rw [if_neg (by omega)]) (by rw [part_bot]; first | rw [dif_pos (by omega)] | rw [dif_neg (by omega)])
         have el : (colE g.borings[nearE g p] f t i).length + 1 = (colE g.borings[nearE g p] f t (i + 1)).length := by rw [← e]; simp
         rw [e, el]
         exact entails_eq (nx := 32) (k := 3) (ns := []) (ks := [10, 26, 24, 25, 9, 2, 3]) [(1, 1), (3, 3)] rfl (by simp) rfl)
      | (rw [← colE_no (f := f) (t := t) h (by rw [part_top h2]; first | rw [if_pos (by omega)] | rw [if_neg (by omega)]) (by rw [part_bot]; first | rw [dif_pos (by omega)] | rw [dif_neg (by omega)])]
         exact entails_eq (nx := 32) (k := 3) (ns := []) (ks := [10, 26, 24, 25, 9, 2, 3]) [(1, 1), (3, 3)] rfl (by simp) rfl)
  refine end_fr rfl rfl ?_
  simp only [columnE, List.getElem?_eq_getElem hn]
  congr 1; omega

/-- A column and the error. -/
def columnRE (g : Ground) (p : Pt) (f t : Int) : List Part × Int := if askedE g p [f, t] ≠ 0 then ([], askedE g p [f, t]) else if f < t then ([], 9) else (columnE g p f t, 0)
def encCol (x : List Part × Int) : D := .tup [.fr 3 (x.1.map encPart), .int .i64 x.2]

theorem c42 (g : Ground) (hs : g.soils.length < 1000000000000) (hb : g.borings.length < 1000000000000) (p : Pt) (f t : Int) : Contract Try.prog 42 [.agg (encGround g), .agg (encPt p), .int .i64 f, .int .i64 t] (.ret (encCol (columnRE g p f t))) := by
  have h96 : Contract Try.prog 96 [.agg (encGround g), .agg (encPt p), .sl [[.int .i64 f], [.int .i64 t]]] (.ret (.int .i64 (askedE g p [f, t]))) := c96 g hs hb p [f, t] (by simp)
  refine contract_of mix Try.func42 rfl rfl (by rw [Try.ntmps42]; exact Nat.le_of_ble_eq_true rfl) ?_; rw [Try.results42, Try.ntmps42]; simp only [argsE, Nat.reduceAdd]
  repeat' first
           | (with_reducible apply go_op)
           | (with_reducible apply go_next)
           | ((with_reducible (show evOp _ _ _ _ _ _)); first
             | ((with_reducible (show evOp _ (.move _) _ _ _ _)) ; first | ((with_reducible apply go_mv_int); rfl; rfl) | ((with_reducible apply go_mv_nilsl); rfl; rfl))
             | ((with_reducible apply go_as))
             | (((with_reducible apply go_ld_agg); rfl; rfl; rfl; rfl))
             | (((with_reducible apply go_cmp); rfl; rfl; rfl; rfl))
             | (((with_reducible apply go_fn_int); rfl; (exact h96); rfl))
             | (((with_reducible apply go_bd1_agg); rfl; rfl; rfl; rfl))
             | (((with_reducible apply go_bx_agg); rfl; rfl; (exact Nat.le_of_ble_eq_true rfl); rfl; rfl))
             | (((with_reducible apply go_bs2_int); rfl; rfl; rfl; rfl)))
           | ((with_reducible (show evOps _ _ _ _ _ _)); first
             | (with_reducible apply go_nil))
           | ((with_reducible (show evG _ _ _ _ _)); first
             | (with_reducible apply go_seq)
             | (with_reducible apply go_region)
             | (((with_reducible apply go_cond); rfl) <;> (intro h; simp only [h]; try simp only [decide_eq_true_eq, decide_eq_false_iff_not, Bool.not_eq_true', Bool.not_eq_false', Bool.not_true, Bool.not_false] at h; try exact absurd trivial h))
             | (with_reducible apply go_ret)
             | (with_reducible apply go_skipc))
           | (with_reducible apply go_kseq)
           | (with_reducible apply go_kseq_ret)
  · have e : columnRE g p f t = ([], askedE g p [f, t]) := by simp only [columnRE]; rw [if_pos h]
    rw [e]
    exact finK_ret (fin_nil2 (k := 3) rfl rfl rfl)
  · rename_i h0
    have e : columnRE g p f t = ([], 9) := by simp only [columnRE]; rw [if_neg (by simp [h0]), if_pos h]
    rw [e]
    exact finK_ret (fin_nil2 (k := 3) rfl rfl rfl)
  · rename_i h0
    have hg := okG (asked0 h0).1
    have e : columnRE g p f t = (columnE g p f t, 0) := by simp only [columnRE]; rw [if_neg (by simp [h0]), if_neg h]
    rw [e]
    repeat' first
           | (with_reducible apply go_op)
           | (with_reducible apply go_next)
           | ((with_reducible (show evOp _ _ _ _ _ _)); first
             | ((with_reducible (show evOp _ (.move _) _ _ _ _)) ; first | ((with_reducible apply go_mv_int); rfl; rfl) | ((with_reducible apply go_mv_os); rfl; rfl))
             | ((with_reducible apply go_as))
             | (((with_reducible apply go_fn_fr); rfl; (exact c97 g hg p f t); (exact scalPart); rfl)))
           | ((with_reducible (show evOps _ _ _ _ _ _)); first
             | (with_reducible apply go_nil))
           | ((with_reducible (show evG _ _ _ _ _)); first
             | (with_reducible apply go_ret))
           | (with_reducible apply go_kseq)
    exact finK_ret (fin_fr2 rfl (by simp) rfl rfl rfl)
end Go.Pv.Soil

open Go Go.Proofs Go.Pv
set_option maxHeartbeats 1000000
set_option maxRecDepth 100000
set_option linter.unusedSimpArgs false
set_option linter.unusedVariables false
namespace Go.Pv.Soil

instance teq68 : TEq Try.prog 68 [.s, .i, .i] := ⟨by kernel_rfl⟩
instance tar73 : TArr Try.prog 73 2 1 := ⟨3, by kernel_rfl, by kernel_rfl, by decide⟩
instance tar63 : TArr Try.prog 63 3 1 := ⟨3, by kernel_rfl, by kernel_rfl, by decide⟩

theorem c51 (g : Ground) (hg : OkG g) (p : Pt) (hp : ptOK p = true) (f t : Int) : Contract Try.prog 51 [.agg (encGround g), .agg (encPt p), .int .i64 f, .int .i64 t] (.ret (.fr 3 ((columnE g p f t).map encPart))) := by
  have hn := near_lt (p := p) hg.n.1
  have hb20 := hg.n
  have hll := (hg.bor _ hn).len
  refine contract_of mix Try.func51 rfl rfl (by rw [Try.ntmps51]; exact Nat.le_of_ble_eq_true rfl) ?_; rw [Try.results51, Try.ntmps51]; simp only [argsE, Nat.reduceAdd]
  repeat' first
           | (with_reducible apply go_op)
           | (with_reducible apply go_next)
           | ((with_reducible (show evOp _ _ _ _ _ _)); first
             | ((with_reducible (show evOp _ (.move _) _ _ _ _)) ; first | ((with_reducible apply go_mv_int); rfl; rfl) | ((with_reducible apply go_mv_sl); rfl; rfl) | ((with_reducible apply go_mv_nilsl); rfl; rfl))
             | ((with_reducible apply go_as))
             | ((with_reducible (show evOp _ (.load _ _) _ _ _ _)) ; first | ((with_reducible apply go_ld_agg); rfl; rfl; rfl; rfl) | ((with_reducible apply go_load); rfl; rfl; rfl) | ((with_reducible apply go_load_own); rfl; rfl; rfl; rfl))
             | ((with_reducible (show evOp _ (.fieldAddr _ _ _) _ _ _ _)) ; first | ((with_reducible apply go_fieldAddr); rfl; rfl) | ((with_reducible apply go_fieldAddr_own); rfl; rfl; rfl))
             | (((with_reducible apply go_index_nat); rfl; rfl; (with_reducible rfl); (intro; rfl); rfl; omega; (intro hlt)))
             | (((with_reducible apply go_fn_int); rfl; (exact c47 g hg p hp); rfl))
             | (((with_reducible apply go_bx_agg); rfl; rfl; (exact Nat.le_of_ble_eq_true rfl); rfl; rfl)))
           | ((with_reducible (show evOps _ _ _ _ _ _)); first
             | (with_reducible apply go_nil)
             | ((with_reducible apply go_pre); rfl)
             | (with_reducible apply go_pre_nil)
             | ((with_reducible apply go_suf); rfl)
             | (with_reducible apply go_suf_nil))
           | ((with_reducible (show evG _ _ _ _ _)); first
             | (with_reducible apply go_seq)
             | (with_reducible apply go_region)
             | ((with_reducible apply go_order); kernel_rfl; rfl)
             | (with_reducible apply go_block))
           | (with_reducible apply go_kseq)
           | (with_reducible apply go_ksuf)
  refine go_count g.borings[nearE g p].layers.length (fun i => ⟨[(10, .os 1 0 (colE g.borings[nearE g p] f t i).length), (11, .int .i64 i), (9, .sl (g.borings[nearE g p].layers.map encLayer)), (2, .int .i64 f), (3, .int .i64 t)], [(1, ⟨3, true, (colE g.borings[nearE g p] f t i).map encPart⟩)], 32, 67⟩) (fun i => True) (entails_eq (nx := 32) (k := 3) (ns := [(10, 1)]) (ks := [11, 9, 2, 3]) [] rfl (by simp; rfl) rfl) trivial ?_
  intro i hi hC
  repeat' first
           | (with_reducible apply go_op)
           | (with_reducible apply go_next)
           | ((with_reducible (show evOp _ _ _ _ _ _)); first
             | ((with_reducible (show evOp _ (.move _) _ _ _ _)) ; first | ((with_reducible apply go_mv_int); rfl; rfl) | ((with_reducible apply go_mv_sl); rfl; rfl) | ((with_reducible apply go_mv_os); rfl; rfl))
             | ((with_reducible apply go_as))
             | (((with_reducible apply go_load); rfl; rfl; rfl))
             | (((with_reducible apply go_fieldAddr); rfl; rfl))
             | ((with_reducible (show evOp _ (.indexAddr _ _ _) _ _ _ _)) ; first | ((with_reducible apply go_index_nat); rfl; rfl; (with_reducible rfl); (intro; rfl); rfl; omega; (intro hlt)) | ((with_reducible apply go_index); rfl; rfl; (intro; rfl); rfl; omega; intro hlt))
             | ((with_reducible (show evOp _ (.binOp _ _ _ _ _) _ _ _ _)) ; first | ((with_reducible apply go_cmp); rfl; rfl; rfl; rfl) | ((with_reducible apply go_add); rfl; rfl; rfl; omega))
             | ((with_reducible (show evOp _ (.call _) _ _ _ _)) ; first | ((with_reducible apply go_len); rfl; rfl) | ((with_reducible apply go_min); rfl; rfl; rfl) | ((with_reducible apply go_max); rfl; rfl; rfl))
             | (((with_reducible apply go_bd3_sii); rfl; rfl; rfl; rfl; rfl))
             | (((with_reducible apply go_bs1_agg); rfl; rfl; rfl; rfl; rfl; rfl)))
           | ((with_reducible (show evOps _ _ _ _ _ _)); first
             | (with_reducible apply go_nil))
           | ((with_reducible (show evG _ _ _ _ _)); first
             | (with_reducible apply go_seq)
             | (with_reducible apply go_region)
             | (((with_reducible apply go_cond); rfl) <;> (intro h; simp only [h]; try simp only [decide_eq_true_eq, decide_eq_false_iff_not, Bool.not_eq_true', Bool.not_eq_false', Bool.not_true, Bool.not_false] at h; try exact absurd trivial h))
             | (with_reducible apply go_ret)
             | (with_reducible apply go_skipc)
             | (with_reducible apply go_block)
             | (with_reducible apply go_exit))
           | (with_reducible apply go_kseq)
           | (with_reducible apply go_kblock)
           | (with_reducible apply go_kblock_exit)
           | (with_reducible apply go_kseq_exit)
  all_goals first
    | (refine go_app_map (f := encPart) (a := ⟨_, _, _⟩) (l := colE g.borings[nearE g p] f t i) scalPart rfl rfl rfl rfl rfl rfl (by kernel_rfl) (by kernel_rfl) (by have := colE_len g.borings[nearE g p] f t i; omega) rfl ?_)
    | skip
  repeat' first
           | (with_reducible apply go_op)
           | (with_reducible apply go_next)
           | ((with_reducible (show evOp _ _ _ _ _ _)); first
             | ((with_reducible (show evOp _ (.move _) _ _ _ _)) ; first | ((with_reducible apply go_mv_int); rfl; rfl) | ((with_reducible apply go_mv_os); rfl; rfl))
             | ((with_reducible apply go_as))
             | (((with_reducible apply go_add); rfl; rfl; rfl; omega)))
           | ((with_reducible (show evOps _ _ _ _ _ _)); first
             | (with_reducible apply go_nil))
           | ((with_reducible (show evG _ _ _ _ _)); first
             | (with_reducible apply go_region))
           | (with_reducible apply go_kseq)
           | (with_reducible apply go_kblock)
  all_goals try
    have h2 : i < g.borings[nearE g p].layers.length := by omega
    have e1 : ((i : Int) + 1).toNat = i + 1 := by omega
    simp only [e1] at *
    refine ⟨h2, trivial, ?_⟩
    first
      | (have e := colE_yes (f := f) (t := t) h h2 (by rw [part_top h2]; first | rw [if_pos (by omega)] | rw [if_neg (by omega)]) (by rw [part_bot]; first | rw [dif_pos (by omega)] | rw [dif_neg (by omega)])
         have el : (colE g.borings[nearE g p] f t i).length + 1 = (colE g.borings[nearE g p] f t (i + 1)).length := by rw [← e]; simp
         rw [e, el]
         exact entails_eq (nx := 32) (k := 3) (ns := []) (ks := [10, 11, 9, 2, 3]) [(1, 1)] rfl (by simp) rfl)
      | (rw [← colE_no (f := f) (t := t) h (by rw [part_top h2]; first | rw [if_pos (by omega)] | rw [if_neg (by omega)]) (by rw [part_bot]; first | rw [dif_pos (by omega)] | rw [dif_neg (by omega)])]
         exact entails_eq (nx := 32) (k := 3) (ns := []) (ks := [10, 11, 9, 2, 3]) [(1, 1)] rfl (by simp) rfl)
  refine end_fr rfl rfl ?_
  simp only [columnE, List.getElem?_eq_getElem hn]
  congr 1; omega

theorem c50 (l : List Part) (hl : l.length < 1000000000000) : Contract Try.prog 50 [.sl (l.map encPart), .sl (l.map encPart)] (.ret (.bool true)) := by
  refine contract_of mix Try.func50 rfl rfl (by rw [Try.ntmps50]; exact Nat.le_of_ble_eq_true rfl) ?_; rw [Try.results50, Try.ntmps50]; simp only [argsE, Nat.reduceAdd]
  repeat' first
           | (with_reducible apply go_op)
           | (with_reducible apply go_next)
           | ((with_reducible (show evOp _ _ _ _ _ _)); first
             | ((with_reducible (show evOp _ (.move _) _ _ _ _)) ; first | ((with_reducible apply go_mv_int); rfl; rfl) | ((with_reducible apply go_mv_bool); rfl; rfl) | ((with_reducible apply go_mv_sl); rfl; rfl))
             | ((with_reducible apply go_as))
             | (((with_reducible apply go_cmp); rfl; rfl; rfl; rfl))
             | (((with_reducible apply go_len); rfl; rfl)))
           | ((with_reducible (show evOps _ _ _ _ _ _)); first
             | (with_reducible apply go_nil))
           | ((with_reducible (show evG _ _ _ _ _)); first
             | (with_reducible apply go_seq)
             | (with_reducible apply go_region)
             | (((with_reducible apply go_cond); rfl) <;> (intro h; simp only [h]; try simp only [decide_eq_true_eq, decide_eq_false_iff_not, Bool.not_eq_true', Bool.not_eq_false', Bool.not_true, Bool.not_false] at h; try exact absurd trivial h))
             | (with_reducible apply go_skipc)
             | (with_reducible apply go_block))
           | (with_reducible apply go_kseq)
  refine go_count (l.length) (fun i => ⟨[(5, .int .i64 i), (0, .sl (l.map encPart)), (1, .sl (l.map encPart))], [], 0, 26⟩) (fun i => True) (entails_eq (k := 0) (ns := []) (ks := [5, 0, 1]) [] rfl (by simp) rfl) trivial ?_
  intro i hi hC
  repeat' first
           | (with_reducible apply go_op)
           | (with_reducible apply go_next)
           | ((with_reducible (show evOp _ _ _ _ _ _)); first
             | ((with_reducible (show evOp _ (.move _) _ _ _ _)) ; first | ((with_reducible apply go_mv_int); rfl; rfl) | ((with_reducible apply go_mv_bool); rfl; rfl) | ((with_reducible apply go_mv_sl); rfl; rfl))
             | ((with_reducible apply go_as))
             | (((with_reducible apply go_ld_ptr); rfl; rfl; rfl))
             | (((with_reducible apply go_index_nat); rfl; rfl; (with_reducible rfl); (intro; rfl); rfl; omega; (intro hlt)))
             | ((with_reducible (show evOp _ (.binOp _ _ _ _ _) _ _ _ _)) ; first | ((with_reducible apply go_cmp); rfl; rfl; rfl; rfl) | ((with_reducible apply go_add); rfl; rfl; rfl; omega) | ((with_reducible apply go_neq_agg); rfl; rfl; rfl; rfl))
             | (((with_reducible apply go_len); rfl; rfl)))
           | ((with_reducible (show evOps _ _ _ _ _ _)); first
             | (with_reducible apply go_nil)
             | ((with_reducible apply go_pre); rfl)
             | (with_reducible apply go_pre_nil)
             | ((with_reducible apply go_suf); rfl)
             | (with_reducible apply go_suf_nil))
           | ((with_reducible (show evG _ _ _ _ _)); first
             | (with_reducible apply go_seq)
             | (with_reducible apply go_region)
             | (((with_reducible apply go_cond); rfl) <;> (intro h; simp only [h]; try simp only [decide_eq_true_eq, decide_eq_false_iff_not, Bool.not_eq_true', Bool.not_eq_false', Bool.not_true, Bool.not_false] at h; try exact absurd trivial h))
             | ((with_reducible apply go_order); kernel_rfl; rfl)
             | (with_reducible apply go_ret)
             | (with_reducible apply go_skipc)
             | (with_reducible apply go_block)
             | (with_reducible apply go_exit))
           | (with_reducible apply go_kseq)
           | (with_reducible apply go_ksuf)
           | (with_reducible apply go_kseq_ret)
           | (with_reducible apply go_kblock)
           | (with_reducible apply go_kblock_ret)
           | (with_reducible apply go_kblock_exit)
           | (with_reducible apply go_kseq_exit)
           | ((with_reducible apply end_bool); rfl)
           | (with_reducible rfl)
  · simp at h
  · exact ⟨by omega, trivial, entails_eq (k := 0) (ns := []) (ks := [5, 0, 1]) [] rfl (by simp) rfl⟩
end Go.Pv.Soil

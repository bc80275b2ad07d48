import Derived.Test.YtdedpndkohfgbaaProg
import Derived.Test.YtdedpndkohfgbaaWAF
import Derived.KernelRfl
import Derived.Test.YtdedpndkohfgbaaWAC
import Derived.Test.YtdedpndkohfgbaaWAD
/- Part of the proofs over Ytdedpndkohfgbaa: S17, S18, S19, S20, S10, S11, S12, S21, S22, S23, S68. -/
set_option linter.unusedVariables false
set_option linter.unusedSimpArgs false
set_option linter.unnecessarySimpa false
open Go Go.Proofs Go.Pv
set_option maxHeartbeats 1000000
set_option maxRecDepth 100000
set_option linter.unusedSimpArgs false
set_option linter.unusedVariables false
namespace Go.Pv.Soil

/-- A boring that is in order. -/
structure OkBoring (l : List Soil) (b : Boring) : Prop where
  pt : ptOK (borPt b) = true
  len : 0 < b.layers.length ∧ b.layers.length ≤ 12
  lay : ∀ i (hi : i < b.layers.length), lvOK b.layers[i].top = true ∧ 0 ≤ ofName l b.layers[i].soil ∧ ∀ (h : 0 < i), b.layers[i].top < (b.layers[i - 1]'(by omega)).top

theorem borE_ok {l : List Soil} {b : Boring} (h : borE l b = 0) : OkBoring l b := by
  unfold borE at h
  split at h
  · omega
  · rename_i h1
    split at h
    · omega
    · split at h
      · omega
      · refine ⟨by simpa [borPt] using h1, by omega, fun i hi => ?_⟩
        have := firstE_all h i hi
        rw [layE_is hi] at this
        split at this
        · omega
        · rename_i h2
          split at this
          · omega
          · rename_i h3
            split at this
            · omega
            · rename_i h4
              refine ⟨by simpa using h2, by omega, fun h0 => ?_⟩
              rw [List.getElem?_eq_getElem (by omega : i - 1 < b.layers.length)] at h3
              simp only [Option.map_some, Option.getD_some, not_and] at h3
              have := h3 h0
              omega

structure OkG (g : Ground) : Prop where
  soils : soilsE g.soils = 0
  n : 0 < g.borings.length ∧ g.borings.length ≤ 20
  bor : ∀ i (hi : i < g.borings.length), OkBoring g.soils g.borings[i]

theorem okG {g : Ground} (h : groundE g = 0) : OkG g := by
  obtain ⟨h1, h2, h3, h4⟩ := groundE_ok h
  exact ⟨h1, ⟨h2, h3⟩, fun i hi => borE_ok (eachE_all h4 hi).2⟩

theorem near_lt {g : Ground} {p : Pt} (h : 0 < g.borings.length) : nearE g p < g.borings.length := bestE_lt h

theorem asked0 {g : Ground} {p : Pt} {l : List Int} (h : askedE g p l = 0) : groundE g = 0 ∧ ptOK p = true ∧ ∀ n ∈ l, lvOK n = true := by
  unfold askedE at h
  split at h
  · omega
  · rename_i h1
    split at h
    · omega
    · rename_i h2
      simp only [not_or, Bool.not_eq_false, Bool.not_eq_true, List.any_eq_false] at h2
      exact ⟨by simpa using h1, h2.1, fun n hn => by simpa using h2.2 n hn⟩

theorem soilAt_eq {g : Ground} {p : Pt} {level : Int} (h : OkG g) : ∃ (hn : nearE g p < g.borings.length) (hl : layerE g.borings[nearE g p] level < g.borings[nearE g p].layers.length), soilAt g p level = (g.borings[nearE g p].layers[layerE g.borings[nearE g p] level]).soil := by
  have hn := near_lt (p := p) h.n.1
  have hl : layerE g.borings[nearE g p] level < g.borings[nearE g p].layers.length := lastE_lt (h.bor _ hn).len.1
  refine ⟨hn, hl, ?_⟩
  simp only [soilAt, List.getElem?_eq_getElem hn, List.getElem?_eq_getElem hl]

theorem c43 (g : Ground) (hs : g.soils.length < 1000000000000) (hb : g.borings.length < 1000000000000) (p : Pt) (level : Int) : Contract Try.prog 43 [.agg (encGround g), .agg (encPt p), .int .i64 level] (.ret (encSE (atE g p level))) := by
  have h96 : Contract Try.prog 96 [.agg (encGround g), .agg (encPt p), .sl [[.int .i64 level]]] (.ret (.int .i64 (askedE g p [level]))) := c96 g hs hb p [level] (by simp)
  by_cases h0 : askedE g p [level] = 0
  · have hg := okG (asked0 h0).1
    obtain ⟨hn, hl, he⟩ := soilAt_eq (p := p) (level := level) hg
    have hll := (hg.bor _ hn).len
    have e : atE g p level = (soilAt g p level, 0) := by simp only [atE]; rw [if_neg (by simp [h0])]
    rw [e, he]
    rw [h0] at h96
    refine contract_of mix Try.func43 rfl rfl (by rw [Try.ntmps43]; exact Nat.le_of_ble_eq_true rfl) ?_; rw [Try.results43, Try.ntmps43]; simp only [argsE, Nat.reduceAdd]
    repeat' first
           | (with_reducible apply go_op)
           | (with_reducible apply go_next)
           | ((with_reducible (show evOp _ _ _ _ _ _)); first
             | ((with_reducible (show evOp _ (.move _) _ _ _ _)) ; first | ((with_reducible apply go_mv_int); rfl; rfl) | ((with_reducible apply go_mv_str); rfl; rfl))
             | ((with_reducible apply go_as))
             | ((with_reducible (show evOp _ (.load _ _) _ _ _ _)) ; first | ((with_reducible apply go_ld_ptr); rfl; rfl; rfl) | ((with_reducible apply go_ld_agg); rfl; rfl; rfl; rfl) | ((with_reducible apply go_load); rfl; rfl; rfl) | ((with_reducible apply go_load_own); rfl; rfl; rfl; rfl))
             | ((with_reducible (show evOp _ (.fieldAddr _ _ _) _ _ _ _)) ; first | ((with_reducible apply go_fieldAddr); rfl; rfl) | ((with_reducible apply go_fieldAddr_own); rfl; rfl; rfl))
             | (((with_reducible apply go_index_nat); rfl; rfl; (with_reducible rfl); (intro; rfl); rfl; omega; (intro hlt)))
             | (((with_reducible apply go_cmp); rfl; rfl; rfl; rfl))
             | ((with_reducible (show evOp _ (.call _) _ _ _ _)) ; first | ((with_reducible apply go_fn_int); rfl; (exact h96); rfl) | ((with_reducible apply go_fn_int); rfl; (exact c98 g hb p); rfl) | ((with_reducible apply go_fn_int); rfl; (exact c99 g.borings[nearE g p] (by omega) level); rfl))
             | (((with_reducible apply go_st_agg); rfl; rfl; rfl; rfl; rfl; rfl; rfl))
             | (((with_reducible apply go_bd1_agg); rfl; rfl; rfl; rfl))
             | (((with_reducible apply go_bx_agg); rfl; rfl; (exact Nat.le_of_ble_eq_true rfl); rfl; rfl))
             | (((with_reducible apply go_alloc); rfl; rfl; rfl))
             | (((with_reducible apply go_bs1_int); rfl; rfl; rfl)))
           | ((with_reducible (show evOps _ _ _ _ _ _)); first
             | (with_reducible apply go_nil)
             | ((with_reducible apply go_pre); rfl)
             | ((with_reducible apply go_pre_stop); rfl)
             | (with_reducible apply go_pre_nil)
             | ((with_reducible apply go_suf); rfl)
             | ((with_reducible apply go_suf_stop); rfl)
             | (with_reducible apply go_suf_nil))
           | ((with_reducible (show evG _ _ _ _ _)); first
             | (with_reducible apply go_seq)
             | (with_reducible apply go_region)
             | ((with_reducible apply go_cond_f); rfl; rfl)
             | ((with_reducible apply go_order); kernel_rfl; rfl)
             | (with_reducible apply go_ret)
             | (with_reducible apply go_skipc))
           | (with_reducible apply go_kseq)
           | (with_reducible apply go_ksuf)
           | ((with_reducible apply end_t2); rfl; rfl; rfl; rfl)
    rfl
  · have e : atE g p level = (.empty, askedE g p [level]) := by simp only [atE]; rw [if_pos h0]
    rw [e]
    refine contract_of mix Try.func43 rfl rfl (by rw [Try.ntmps43]; exact Nat.le_of_ble_eq_true rfl) ?_; rw [Try.results43, Try.ntmps43]; simp only [argsE, Nat.reduceAdd]
    repeat' first
           | (with_reducible apply go_op)
           | (with_reducible apply go_next)
           | ((with_reducible (show evOp _ _ _ _ _ _)); first
             | ((with_reducible (show evOp _ (.move _) _ _ _ _)) ; first | ((with_reducible apply go_mv_int); rfl; rfl) | ((with_reducible apply go_mv_str); rfl; rfl))
             | ((with_reducible apply go_as))
             | ((with_reducible (show evOp _ (.load _ _) _ _ _ _)) ; first | ((with_reducible apply go_ld_agg); rfl; rfl; rfl; rfl) | ((with_reducible apply go_load_own); rfl; rfl; rfl; rfl))
             | (((with_reducible apply go_fieldAddr_own); rfl; rfl; rfl))
             | (((with_reducible apply go_cmp); rfl; rfl; rfl; rfl))
             | (((with_reducible apply go_fn_int); rfl; (exact h96); rfl))
             | (((with_reducible apply go_bd1_agg); rfl; rfl; rfl; rfl))
             | (((with_reducible apply go_bx_agg); rfl; rfl; (exact Nat.le_of_ble_eq_true rfl); rfl; rfl))
             | (((with_reducible apply go_bs1_int); rfl; rfl; rfl)))
           | ((with_reducible (show evOps _ _ _ _ _ _)); first
             | (with_reducible apply go_nil)
             | ((with_reducible apply go_pre); rfl))
           | ((with_reducible (show evG _ _ _ _ _)); first
             | (with_reducible apply go_seq)
             | (with_reducible apply go_region)
             | (((with_reducible apply go_cond); rfl) <;> (intro h; simp only [h]; try simp only [decide_eq_true_eq, decide_eq_false_iff_not, Bool.not_eq_true', Bool.not_eq_false', Bool.not_true, Bool.not_false] at h; try exact absurd trivial h))
             | ((with_reducible apply go_order); kernel_rfl; rfl)
             | (with_reducible apply go_ret)
             | (with_reducible apply go_skipc))
           | (with_reducible apply go_kseq)
           | (with_reducible apply go_kseq_ret)
           | ((with_reducible apply end_t2); rfl; rfl; rfl; rfl)
    all_goals first | (exact absurd ‹_› h0) | rfl

def nearRE (g : Ground) (p : Pt) : Int × Int := if askedE g p [] ≠ 0 then (0, askedE g p []) else (nearE g p, 0)
def enc2 (x : Int × Int) : D := .tup [.int .i64 x.1, .int .i64 x.2]
theorem c45 (g : Ground) (hs : g.soils.length < 1000000000000) (hb : g.borings.length < 1000000000000) (p : Pt) : Contract Try.prog 45 [.agg (encGround g), .agg (encPt p)] (.ret (enc2 (nearRE g p))) := by
  have h96 : Contract Try.prog 96 [.agg (encGround g), .agg (encPt p), .sl []] (.ret (.int .i64 (askedE g p []))) := c96 g hs hb p [] (by simp)
  refine contract_of mix Try.func45 rfl rfl (by rw [Try.ntmps45]; exact Nat.le_of_ble_eq_true rfl) ?_; rw [Try.results45, Try.ntmps45]; simp only [argsE, Nat.reduceAdd]
  repeat' first
           | (with_reducible apply go_op)
           | (with_reducible apply go_next)
           | ((with_reducible (show evOp _ _ _ _ _ _)); first
             | (((with_reducible apply go_mv_int); rfl; rfl))
             | ((with_reducible apply go_as))
             | (((with_reducible apply go_ld_agg); rfl; rfl; rfl; rfl))
             | (((with_reducible apply go_cmp); rfl; rfl; rfl; rfl))
             | ((with_reducible (show evOp _ (.call _) _ _ _ _)) ; first | ((with_reducible apply go_fn_int); rfl; (exact h96); rfl) | ((with_reducible apply go_fn_int); rfl; (exact c98 g hb p); rfl))
             | (((with_reducible apply go_bd1_agg); rfl; rfl; rfl; rfl))
             | (((with_reducible apply go_bx_agg); rfl; rfl; (exact Nat.le_of_ble_eq_true rfl); rfl; rfl)))
           | ((with_reducible (show evOps _ _ _ _ _ _)); first
             | (with_reducible apply go_nil))
           | ((with_reducible (show evG _ _ _ _ _)); first
             | (with_reducible apply go_seq)
             | (with_reducible apply go_region)
             | (((with_reducible apply go_cond); rfl) <;> (intro h; simp only [h]; try simp only [decide_eq_true_eq, decide_eq_false_iff_not, Bool.not_eq_true', Bool.not_eq_false', Bool.not_true, Bool.not_false] at h; try exact absurd trivial h))
             | (with_reducible apply go_ret)
             | (with_reducible apply go_skipc))
           | (with_reducible apply go_kseq)
           | (with_reducible apply go_kseq_ret)
           | ((with_reducible apply end_t2); rfl; rfl; rfl; rfl)
  · simp only [nearRE, if_pos h]; rfl
  · simp only [nearRE]; rw [if_neg (by simp [h])]; rfl

theorem c47 (g : Ground) (hg : OkG g) (p : Pt) (hp : ptOK p = true) : Contract Try.prog 47 [.agg (encGround g), .agg (encPt p)] (.ret (.int .i64 (nearE g p))) := by
  have hn := hg.n
  refine contract_of mix Try.func47 rfl rfl (by rw [Try.ntmps47]; exact Nat.le_of_ble_eq_true rfl) ?_; rw [Try.results47, Try.ntmps47]; simp only [argsE, Nat.reduceAdd]
  repeat' first
           | (with_reducible apply go_op)
           | (with_reducible apply go_next)
           | ((with_reducible (show evOp _ _ _ _ _ _)); first
             | (((with_reducible apply go_mv_int); rfl; rfl))
             | ((with_reducible apply go_as))
             | (((with_reducible apply go_bx_agg); rfl; rfl; (exact Nat.le_of_ble_eq_true rfl); rfl; rfl)))
           | ((with_reducible (show evOps _ _ _ _ _ _)); first
             | (with_reducible apply go_nil))
           | ((with_reducible (show evG _ _ _ _ _)); first
             | (with_reducible apply go_seq)
             | (with_reducible apply go_region)
             | (with_reducible apply go_block))
           | (with_reducible apply go_kseq)
  refine go_count (g.borings.length) (fun i => ⟨[(7, .int .i64 i), (2, .op 0 0 0), (3, .op 32 0 0), (5, .int .i64 (bestE (nearD g p) i).1), (6, .int .i64 (bestE (nearD g p) i).2)], [(0, ⟨2, true, [encGround g]⟩), (32, ⟨2, true, [encPt p]⟩)], 64, 41⟩) (fun i => True) (entails_eq (k := 0) (ns := []) (ks := [7, 2, 3, 5, 6]) [(0, 0), (32, 32)] rfl (by simp) rfl) trivial ?_
  intro i hi hC
  repeat' first
           | (with_reducible apply go_op)
           | (with_reducible apply go_next)
           | ((with_reducible (show evOp _ _ _ _ _ _)); first
             | (((with_reducible apply go_mv_int); rfl; rfl))
             | ((with_reducible apply go_as))
             | ((with_reducible (show evOp _ (.load _ _) _ _ _ _)) ; first | ((with_reducible apply go_ld_agg); rfl; rfl; rfl; rfl) | ((with_reducible apply go_load); rfl; rfl; rfl) | ((with_reducible apply go_load_own); rfl; rfl; rfl; rfl))
             | ((with_reducible (show evOp _ (.fieldAddr _ _ _) _ _ _ _)) ; first | ((with_reducible apply go_fieldAddr); rfl; rfl) | ((with_reducible apply go_fieldAddr_own); rfl; rfl; rfl))
             | (((with_reducible apply go_index_nat); rfl; rfl; (with_reducible rfl); (intro; rfl); rfl; omega; (intro hlt)))
             | (((with_reducible apply go_cmp); rfl; rfl; rfl; rfl))
             | (((with_reducible apply go_len); rfl; rfl))
             | (((with_reducible apply go_bd2_int); rfl; rfl; rfl; rfl)))
           | ((with_reducible (show evOps _ _ _ _ _ _)); first
             | (with_reducible apply go_nil)
             | ((with_reducible apply go_pre); rfl))
           | ((with_reducible (show evG _ _ _ _ _)); first
             | (with_reducible apply go_seq)
             | (with_reducible apply go_region)
             | (((with_reducible apply go_cond); rfl) <;> (intro h; simp only [h]; try simp only [decide_eq_true_eq, decide_eq_false_iff_not, Bool.not_eq_true', Bool.not_eq_false', Bool.not_true, Bool.not_false] at h; try exact absurd trivial h))
             | ((with_reducible apply go_order); kernel_rfl; rfl)
             | (with_reducible apply go_ret)
             | (with_reducible apply go_skipc)
             | (with_reducible apply go_block)
             | (with_reducible apply go_exit))
           | (with_reducible apply go_kseq)
           | (with_reducible apply go_kblock_exit)
           | (with_reducible apply go_kseq_exit)
           | ((with_reducible apply end_int); rfl)
  · have h2 : i < g.borings.length := by omega
    have hd : nearD g p i = squareE (borPt g.borings[i]) p := by simp only [nearD, List.getElem?_eq_getElem h2]
    have hq : sqE p (borPt g.borings[i]) = nearD g p i := by
      rw [hd]
      simp only [squareE]
      rw [if_pos ⟨(hg.bor i h2).pt, hp⟩]
      simp only [sqE]
      have e1 : ∀ a b : Int, (a - b) * (a - b) = (b - a) * (b - a) := fun a b => by
        rw [show b - a = -(a - b) by omega, Int.neg_mul_neg]
      rw [e1 _ p.x, e1 _ p.y]
    refine go_fn_int (args' := [.agg (encPt p), .agg (encPt (borPt g.borings[i]))]) rfl (c100 _ _ hp (hg.bor i h2).pt) rfl ?_
    rw [hq]
    repeat' first
           | (with_reducible apply go_op)
           | (with_reducible apply go_next)
           | ((with_reducible (show evOp _ _ _ _ _ _)); first
             | ((with_reducible (show evOp _ (.move _) _ _ _ _)) ; first | ((with_reducible apply go_mv_int); rfl; rfl) | ((with_reducible apply go_mv_bool); rfl; rfl))
             | ((with_reducible apply go_as))
             | ((with_reducible (show evOp _ (.binOp _ _ _ _ _) _ _ _ _)) ; first | ((with_reducible apply go_cmp); rfl; rfl; rfl; rfl) | ((with_reducible apply go_add); rfl; rfl; rfl; omega))
             | (((with_reducible apply go_pick); rfl; rfl; rfl)))
           | ((with_reducible (show evOps _ _ _ _ _ _)); first
             | (with_reducible apply go_nil)
             | ((with_reducible apply go_run); rfl; rfl)
             | ((with_reducible apply go_pass); rfl; rfl; rfl)
             | (((with_reducible apply go_guard); rfl) <;> (intro h; simp only [h, Bool.not_true, Bool.not_false]; (try with_reducible (refine ⟨rfl, ?_⟩)); try simp only [decide_eq_true_eq, decide_eq_false_iff_not, Bool.not_eq_true', Bool.not_eq_false', Bool.not_true, Bool.not_false] at h; try exact absurd trivial h))
             | ((with_reducible apply go_pre); rfl)
             | (with_reducible apply go_pre_nil)
             | ((with_reducible apply go_suf); rfl)
             | (with_reducible apply go_suf_nil))
           | ((with_reducible (show evG _ _ _ _ _)); first
             | (with_reducible apply go_seq)
             | (with_reducible apply go_region)
             | ((with_reducible apply go_cond_t); rfl; rfl)
             | (((with_reducible apply go_cond); rfl) <;> (intro h; simp only [h]; try simp only [decide_eq_true_eq, decide_eq_false_iff_not, Bool.not_eq_true', Bool.not_eq_false', Bool.not_true, Bool.not_false] at h; try exact absurd trivial h))
             | (with_reducible apply go_skipc))
           | (with_reducible apply go_kseq)
           | (with_reducible apply go_ksuf)
           | (with_reducible apply go_kblock)
    all_goals refine ⟨h2, trivial, ?_⟩
    all_goals first
      | (rw [bestE_step (by omega)]; exact entails_eq (k := 0) (ns := []) (ks := [7, 2, 3, 5, 6]) [(0, 0), (32, 32)] rfl (by simp) rfl)
      | (rw [bestE_keep (by omega)]; exact entails_eq (k := 0) (ns := []) (ks := [7, 2, 3, 5, 6]) [(0, 0), (32, 32)] rfl (by simp) rfl)
  · simp only [nearE]; congr 3; omega
end Go.Pv.Soil

open Go Go.Proofs Go.Pv
set_option maxHeartbeats 1000000
set_option maxRecDepth 100000
set_option linter.unusedSimpArgs false
set_option linter.unusedVariables false
namespace Go.Pv.Soil

def laySoil (b : Boring) (k : Nat) : ByteArray := match b.layers[k]? with
  | some l => l.soil
  | none => .empty

theorem c49 (g : Ground) (hg : OkG g) (p : Pt) (hp : ptOK p = true) (level : Int) : Contract Try.prog 49 [.agg (encGround g), .agg (encPt p), .int .i64 level] (.ret (.str (soilAt g p level))) := by
  have hn := near_lt (p := p) hg.n.1
  have hll := (hg.bor _ hn).len
  have e0 : laySoil g.borings[nearE g p] 0 = (g.borings[nearE g p].layers[(0 : Int).toNat]'(by simp; omega)).soil := by
    show _ = (g.borings[nearE g p].layers[0]'(by omega)).soil
    simp only [laySoil, List.getElem?_eq_getElem (by omega : 0 < g.borings[nearE g p].layers.length)]
  refine contract_of mix Try.func49 rfl rfl (by rw [Try.ntmps49]; exact Nat.le_of_ble_eq_true rfl) ?_; rw [Try.results49, Try.ntmps49]; simp only [argsE, Nat.reduceAdd]
  repeat' first
           | (with_reducible apply go_op)
           | (with_reducible apply go_next)
           | ((with_reducible (show evOp _ _ _ _ _ _)); first
             | ((with_reducible (show evOp _ (.move _) _ _ _ _)) ; first | ((with_reducible apply go_mv_int); rfl; rfl) | ((with_reducible apply go_mv_sl); rfl; rfl) | ((with_reducible apply go_mv_str); rfl; rfl))
             | ((with_reducible apply go_as))
             | ((with_reducible (show evOp _ (.load _ _) _ _ _ _)) ; first | ((with_reducible apply go_ld_agg); rfl; rfl; rfl; rfl) | ((with_reducible apply go_load); rfl; rfl; rfl) | ((with_reducible apply go_load_own); rfl; rfl; rfl; rfl))
             | ((with_reducible (show evOp _ (.fieldAddr _ _ _) _ _ _ _)) ; first | ((with_reducible apply go_fieldAddr); rfl; rfl) | ((with_reducible apply go_fieldAddr_own); rfl; rfl; rfl))
             | ((with_reducible (show evOp _ (.indexAddr _ _ _) _ _ _ _)) ; first | ((with_reducible apply go_index_nat); rfl; rfl; (with_reducible rfl); (intro; rfl); rfl; omega; (intro hlt)) | ((with_reducible apply go_index); rfl; rfl; (intro; rfl); rfl; omega; intro hlt))
             | (((with_reducible apply go_fn_int); rfl; (exact c47 g hg p hp); rfl))
             | (((with_reducible apply go_bx_agg); rfl; rfl; (exact Nat.le_of_ble_eq_true rfl); rfl; rfl)))
           | ((with_reducible (show evOps _ _ _ _ _ _)); first
             | (with_reducible apply go_nil)
             | ((with_reducible apply go_pre); rfl)
             | (with_reducible apply go_pre_nil)
             | ((with_reducible apply go_suf); rfl)
             | (with_reducible apply go_suf_nil))
           | ((with_reducible (show evG _ _ _ _ _)); first
             | (with_reducible apply go_seq)
             | (with_reducible apply go_region)
             | ((with_reducible apply go_order); kernel_rfl; rfl)
             | (with_reducible apply go_block))
           | (with_reducible apply go_kseq)
           | (with_reducible apply go_ksuf)
  rw [← e0]
  refine go_count (g.borings[nearE g p].layers.length) (fun i => ⟨[(9, .int .i64 i), (2, .int .i64 level), (7, .sl (g.borings[nearE g p].layers.map encLayer)), (8, .str (laySoil g.borings[nearE g p] (lastE (topAt g.borings[nearE g p] level) i)))], [], 64, 41⟩) (fun i => True) (entails_eq (k := 0) (ns := []) (ks := [9, 2, 7, 8]) [] rfl (by simp) rfl) trivial ?_
  intro i hi hC
  repeat' first
           | (with_reducible apply go_op)
           | (with_reducible apply go_next)
           | ((with_reducible (show evOp _ _ _ _ _ _)); first
             | ((with_reducible (show evOp _ (.move _) _ _ _ _)) ; first | ((with_reducible apply go_mv_int); rfl; rfl) | ((with_reducible apply go_mv_sl); rfl; rfl) | ((with_reducible apply go_mv_str); rfl; rfl))
             | ((with_reducible apply go_as))
             | (((with_reducible apply go_load); rfl; rfl; rfl))
             | (((with_reducible apply go_fieldAddr); rfl; rfl))
             | (((with_reducible apply go_index_nat); rfl; rfl; (with_reducible rfl); (intro; rfl); rfl; omega; (intro hlt)))
             | ((with_reducible (show evOp _ (.binOp _ _ _ _ _) _ _ _ _)) ; first | ((with_reducible apply go_cmp); rfl; rfl; rfl; rfl) | ((with_reducible apply go_add); rfl; rfl; rfl; omega))
             | (((with_reducible apply go_len); rfl; rfl)))
           | ((with_reducible (show evOps _ _ _ _ _ _)); first
             | (with_reducible apply go_nil))
           | ((with_reducible (show evG _ _ _ _ _)); first
             | (with_reducible apply go_seq)
             | (with_reducible apply go_region)
             | (((with_reducible apply go_cond); rfl) <;> (intro h; simp only [h]; try simp only [decide_eq_true_eq, decide_eq_false_iff_not, Bool.not_eq_true', Bool.not_eq_false', Bool.not_true, Bool.not_false] at h; try exact absurd trivial h))
             | (with_reducible apply go_ret)
             | (with_reducible apply go_skipc)
             | (with_reducible apply go_block)
             | (with_reducible apply go_exit))
           | (with_reducible apply go_kseq)
           | (with_reducible apply go_kblock)
           | (with_reducible apply go_kblock_exit)
           | (with_reducible apply go_kseq_exit)
           | ((with_reducible apply end_str); rfl)
  · have h2 : i < g.borings[nearE g p].layers.length := by omega
    refine ⟨h2, trivial, ?_⟩
    have e : lastE (topAt g.borings[nearE g p] level) (i + 1) = i := by
      unfold lastE; rw [if_pos (by rw [topAt_at h2]; simpa using h)]
    have e2 : laySoil g.borings[nearE g p] i = (g.borings[nearE g p].layers[i]).soil := by simp only [laySoil, List.getElem?_eq_getElem h2]
    rw [e, e2]
    exact entails_eq (k := 0) (ns := []) (ks := [9, 2, 7, 8]) [] rfl (by simp) rfl
  · have h2 : i < g.borings[nearE g p].layers.length := by omega
    refine ⟨h2, trivial, ?_⟩
    have e : lastE (topAt g.borings[nearE g p] level) (i + 1) = lastE (topAt g.borings[nearE g p] level) i := by
      show (if _ then _ else _) = _
      rw [if_neg (by rw [topAt_at h2]; simpa using h)]
    rw [e]
    exact entails_eq (k := 0) (ns := []) (ks := [9, 2, 7, 8]) [] rfl (by simp) rfl
  · have e : i = g.borings[nearE g p].layers.length := by omega
    subst e
    simp only [soilAt, List.getElem?_eq_getElem hn, laySoil, layerE]
    rfl

end Go.Pv.Soil

open Go Go.Proofs Go.Pv
set_option maxHeartbeats 1000000
set_option maxRecDepth 100000
set_option linter.unusedSimpArgs false
set_option linter.unusedVariables false
namespace Go.Pv.Soil

structure Part where
  soil : ByteArray
  top : Int
  bottom : Int
def encPart (p : Part) : List D := [.str p.soil, .int .i64 p.top, .int .i64 p.bottom]
theorem scalPart : ScalF encPart 3 := fun _ => ⟨rfl, rfl⟩

def topOf (b : Boring) (i : Nat) (d : Int) : Int := match b.layers[i]? with
  | some l => l.top
  | none => d
def partAt (b : Boring) (f t : Int) (i : Nat) : Part := ⟨laySoil b i, if 0 < i then min f (topOf b i f) else f, if i + 1 < b.layers.length then max t (topOf b (i + 1) t) else t⟩
/-- The parts of a column by the first n layers. -/
def colE (b : Boring) (f t : Int) : Nat → List Part
  | 0 => []
  | n + 1 => if (partAt b f t n).bottom < (partAt b f t n).top then colE b f t n ++ [partAt b f t n] else colE b f t n
def columnE (g : Ground) (p : Pt) (f t : Int) : List Part := match g.borings[nearE g p]? with
  | some b => colE b f t b.layers.length
  | none => []
theorem colE_len (b : Boring) (f t : Int) : ∀ n, (colE b f t n).length ≤ n
  | 0 => Nat.le_refl _
  | n + 1 => by
    have := colE_len b f t n
    simp only [colE]
    split <;> simp <;> omega

theorem part_top {b : Boring} {f t : Int} {i : Nat} (hi : i < b.layers.length) : (partAt b f t i).top = if 0 < i then min f b.layers[i].top else f := by
  simp only [partAt, topOf, List.getElem?_eq_getElem hi]
theorem part_bot {b : Boring} {f t : Int} {i : Nat} : (partAt b f t i).bottom = if h : i + 1 < b.layers.length then max t b.layers[i + 1].top else t := by
  simp only [partAt, topOf]
  split
  · rename_i h; rw [List.getElem?_eq_getElem h]
  · rfl
theorem part_soil {b : Boring} {f t : Int} {i : Nat} (hi : i < b.layers.length) : (partAt b f t i).soil = b.layers[i].soil := by
  simp only [partAt, laySoil, List.getElem?_eq_getElem hi]
theorem colE_yes {b : Boring} {f t X Y : Int} {i : Nat} (h : Y < X) (hi : i < b.layers.length) (hx : (partAt b f t i).top = X) (hy : (partAt b f t i).bottom = Y) : colE b f t i ++ [⟨b.layers[i].soil, X, Y⟩] = colE b f t (i + 1) := by
  subst hx hy
  rw [← part_soil (f := f) (t := t) hi]
  show _ = if _ then _ else _
  rw [if_pos h]
theorem colE_no {b : Boring} {f t X Y : Int} {i : Nat} (h : ¬ Y < X) (hx : (partAt b f t i).top = X) (hy : (partAt b f t i).bottom = Y) : colE b f t i = colE b f t (i + 1) := by
  subst hx hy
  show _ = if _ then _ else _
  rw [if_neg h]

theorem c97 (g : Ground) (hg : OkG g) (p : Pt) (f t : Int) : Contract Try.prog 97 [.agg (encGround g), .agg (encPt p), .int .i64 f, .int .i64 t] (.ret (.fr 3 ((columnE g p f t).map encPart))) := by
  have hn := near_lt (p := p) hg.n.1
  have hb20 := hg.n
  have hll := (hg.bor _ hn).len
  refine contract_of mix Try.func97 rfl rfl (by rw [Try.ntmps97]; exact Nat.le_of_ble_eq_true rfl) ?_; rw [Try.results97, Try.ntmps97]; simp only [argsE, Nat.reduceAdd]
  repeat' first
           | (with_reducible apply go_op)
           | (with_reducible apply go_next)
           | ((with_reducible (show evOp _ _ _ _ _ _)); first
             | ((with_reducible (show evOp _ (.move _) _ _ _ _)) ; first | ((with_reducible apply go_mv_int); rfl; rfl) | ((with_reducible apply go_mv_nilsl); rfl; rfl))
             | ((with_reducible apply go_as))
             | ((with_reducible (show evOp _ (.load _ _) _ _ _ _)) ; first | ((with_reducible apply go_ld_ptr); rfl; rfl; rfl) | ((with_reducible apply go_ld_agg); rfl; rfl; rfl; rfl) | ((with_reducible apply go_load_own); rfl; rfl; rfl; rfl))
             | (((with_reducible apply go_fieldAddr_own); rfl; rfl; rfl))
             | (((with_reducible apply go_index_nat); rfl; rfl; (with_reducible rfl); (intro; rfl); rfl; omega; (intro hlt)))
             | ((with_reducible (show evOp _ (.call _) _ _ _ _)) ; first | ((with_reducible apply go_len); rfl; rfl) | ((with_reducible apply go_fn_int); rfl; (exact c98 g (by omega) p); rfl))
             | (((with_reducible apply go_st_agg); rfl; rfl; rfl; rfl; rfl; rfl; rfl))
             | (((with_reducible apply go_bx_agg); rfl; rfl; (exact Nat.le_of_ble_eq_true rfl); rfl; rfl))
             | (((with_reducible apply go_alloc); rfl; rfl; rfl)))
           | ((with_reducible (show evOps _ _ _ _ _ _)); first
             | (with_reducible apply go_nil)
             | ((with_reducible apply go_pre); rfl)
             | ((with_reducible apply go_pre_stop); rfl)
             | ((with_reducible apply go_suf); rfl)
             | ((with_reducible apply go_suf_stop); rfl))
           | ((with_reducible (show evG _ _ _ _ _)); first
             | (with_reducible apply go_seq)
             | (with_reducible apply go_region)
             | ((with_reducible apply go_order); kernel_rfl; rfl)
             | (with_reducible apply go_block))
           | (with_reducible apply go_kseq)
           | (with_reducible apply go_ksuf)
  refine go_count g.borings[nearE g p].layers.length (fun i => ⟨[(10, .os 1 0 (colE g.borings[nearE g p] f t i).length), (26, .int .i64 i), (24, .sl (g.borings[nearE g p].layers.map encLayer)), (25, .int .i64 g.borings[nearE g p].layers.length), (9, .op 3 0 0), (2, .int .i64 f), (3, .int .i64 t)], [(1, ⟨3, true, (colE g.borings[nearE g p] f t i).map encPart⟩), (3, ⟨4, false, [encBor g.borings[nearE g p]]⟩)], 32, 67⟩) (fun i => True) (entails_eq (nx := 32) (k := 3) (ns := [(10, 1)]) (ks := [26, 24, 25, 9, 2, 3]) [(352, 3)] rfl (by simp; rfl) rfl) trivial ?_
  intro i hi hC
  repeat' first
           | (with_reducible apply go_op)
           | (with_reducible apply go_next)
           | ((with_reducible (show evOp _ _ _ _ _ _)); first
             | ((with_reducible (show evOp _ (.move _) _ _ _ _)) ; first | ((with_reducible apply go_mv_int); rfl; rfl) | ((with_reducible apply go_mv_os); rfl; rfl))
             | ((with_reducible apply go_as))
             | ((with_reducible (show evOp _ (.load _ _) _ _ _ _)) ; first | ((with_reducible apply go_ld_ptr); rfl; rfl; rfl) | ((with_reducible apply go_load); rfl; rfl; rfl) | ((with_reducible apply go_load_own); rfl; rfl; rfl; rfl))
             | ((with_reducible (show evOp _ (.fieldAddr _ _ _) _ _ _ _)) ; first | ((with_reducible apply go_fieldAddr); rfl; rfl) | ((with_reducible apply go_fieldAddr_own); rfl; rfl; rfl))
             | ((with_reducible (show evOp _ (.indexAddr _ _ _) _ _ _ _)) ; first | ((with_reducible apply go_index_nat); rfl; rfl; (with_reducible rfl); (intro; rfl); rfl; omega; (intro hlt)) | ((with_reducible apply go_index); rfl; rfl; (intro; rfl); rfl; omega; intro hlt))
             | ((with_reducible (show evOp _ (.binOp _ _ _ _ _) _ _ _ _)) ; first | ((with_reducible apply go_cmp); rfl; rfl; rfl; rfl) | ((with_reducible apply go_add); rfl; rfl; rfl; omega))
             | ((with_reducible (show evOp _ (.call _) _ _ _ _)) ; first | ((with_reducible apply go_len); rfl; rfl) | ((with_reducible apply go_min); rfl; rfl; rfl) | ((with_reducible apply go_max); rfl; rfl; rfl))
             | (((with_reducible apply go_st_agg); rfl; rfl; rfl; rfl; rfl; rfl; rfl))
             | (((with_reducible apply go_bd3_sii); rfl; rfl; rfl; rfl; rfl))
             | (((with_reducible apply go_alloc); rfl; rfl; rfl))
             | (((with_reducible apply go_bs1_agg); rfl; rfl; rfl; rfl; rfl; rfl)))
           | ((with_reducible (show evOps _ _ _ _ _ _)); first
             | (with_reducible apply go_nil))
           | ((with_reducible (show evG _ _ _ _ _)); first
             | (with_reducible apply go_seq)
             | (with_reducible apply go_region)
             | (((with_reducible apply go_cond); rfl) <;> (intro h; simp only [h]; try simp only [decide_eq_true_eq, decide_eq_false_iff_not, Bool.not_eq_true', Bool.not_eq_false', Bool.not_true, Bool.not_false] at h; try exact absurd trivial h))
             | (with_reducible apply go_ret)
             | (with_reducible apply go_skipc)
             | (with_reducible apply go_block)
             | (with_reducible apply go_exit))
           | (with_reducible apply go_kseq)
           | (with_reducible apply go_kblock)
           | (with_reducible apply go_kblock_exit)
           | (with_reducible apply go_kseq_exit)
  all_goals first
    | (refine go_app_map (f := encPart) (a := ⟨_, _, _⟩) (l := colE g.borings[nearE g p] f t i) scalPart rfl rfl rfl rfl rfl rfl (by kernel_rfl) (by kernel_rfl) (by have := colE_len g.borings[nearE g p] f t i; omega) rfl ?_)
    | skip
  repeat' first
           | (with_reducible apply go_op)
           | (with_reducible apply go_next)
           | ((with_reducible (show evOp _ _ _ _ _ _)); first
             | ((with_reducible (show evOp _ (.move _) _ _ _ _)) ; first | ((with_reducible apply go_mv_int); rfl; rfl) | ((with_reducible apply go_mv_os); rfl; rfl))
             | ((with_reducible apply go_as))
             | (((with_reducible apply go_add); rfl; rfl; rfl; omega)))
           | ((with_reducible (show evOps _ _ _ _ _ _)); first
             | (with_reducible apply go_nil))
           | ((with_reducible (show evG _ _ _ _ _)); first
             | (with_reducible apply go_region))
           | (with_reducible apply go_kseq)
           | (with_reducible apply go_kblock)
  all_goals try
    have h2 : i < g.borings[nearE g p].layers.length := by omega
    have e1 : ((i : Int) + 1).toNat = i + 1 := by omega
    simp only [e1] at *
    refine ⟨h2, trivial, ?_⟩
    first
      | (have e := colE_yes (f := f) (t := t) h h2 (by rw [part_top h2]; first | rw [if_pos (by omega)] | rw [if_neg (by omega)]) (by rw [part_bot]; first | rw [dif_pos (by omega)] | rw [dif_neg (by omega)])
         have el : (colE g.borings[nearE g p] f t i).length + 1 = (colE g.borings[nearE g p] f t (i + 1)).length := by rw [← e]; simp
         rw [e, el]
         exact entails_eq (nx := 32) (k := 3) (ns := []) (ks := [10, 26, 24, 25, 9, 2, 3]) [(1, 1), (3, 3)] rfl (by simp) rfl)
      | (rw [← colE_no (f := f) (t := t) h (by rw [part_top h2]; first | rw [if_pos (by omega)] | rw [if_neg (by omega)]) (by rw [part_bot]; first | rw [dif_pos (by omega)] | rw [dif_neg (by omega)])]
         exact entails_eq (nx := 32) (k := 3) (ns := []) (ks := [10, 26, 24, 25, 9, 2, 3]) [(1, 1), (3, 3)] rfl (by simp) rfl)
  refine end_fr rfl rfl ?_
  simp only [columnE, List.getElem?_eq_getElem hn]
  congr 1; omega

/-- A column and the error. -/
def columnRE (g : Ground) (p : Pt) (f t : Int) : List Part × Int := if askedE g p [f, t] ≠ 0 then ([], askedE g p [f, t]) else if f < t then ([], 9) else (columnE g p f t, 0)
def encCol (x : List Part × Int) : D := .tup [.fr 3 (x.1.map encPart), .int .i64 x.2]

theorem c42 (g : Ground) (hs : g.soils.length < 1000000000000) (hb : g.borings.length < 1000000000000) (p : Pt) (f t : Int) : Contract Try.prog 42 [.agg (encGround g), .agg (encPt p), .int .i64 f, .int .i64 t] (.ret (encCol (columnRE g p f t))) := by
  have h96 : Contract Try.prog 96 [.agg (encGround g), .agg (encPt p), .sl [[.int .i64 f], [.int .i64 t]]] (.ret (.int .i64 (askedE g p [f, t]))) := c96 g hs hb p [f, t] (by simp)
  refine contract_of mix Try.func42 rfl rfl (by rw [Try.ntmps42]; exact Nat.le_of_ble_eq_true rfl) ?_; rw [Try.results42, Try.ntmps42]; simp only [argsE, Nat.reduceAdd]
  repeat' first
           | (with_reducible apply go_op)
           | (with_reducible apply go_next)
           | ((with_reducible (show evOp _ _ _ _ _ _)); first
             | ((with_reducible (show evOp _ (.move _) _ _ _ _)) ; first | ((with_reducible apply go_mv_int); rfl; rfl) | ((with_reducible apply go_mv_nilsl); rfl; rfl))
             | ((with_reducible apply go_as))
             | (((with_reducible apply go_ld_agg); rfl; rfl; rfl; rfl))
             | (((with_reducible apply go_cmp); rfl; rfl; rfl; rfl))
             | (((with_reducible apply go_fn_int); rfl; (exact h96); rfl))
             | (((with_reducible apply go_bd1_agg); rfl; rfl; rfl; rfl))
             | (((with_reducible apply go_bx_agg); rfl; rfl; (exact Nat.le_of_ble_eq_true rfl); rfl; rfl))
             | (((with_reducible apply go_bs2_int); rfl; rfl; rfl; rfl)))
           | ((with_reducible (show evOps _ _ _ _ _ _)); first
             | (with_reducible apply go_nil))
           | ((with_reducible (show evG _ _ _ _ _)); first
             | (with_reducible apply go_seq)
             | (with_reducible apply go_region)
             | (((with_reducible apply go_cond); rfl) <;> (intro h; simp only [h]; try simp only [decide_eq_true_eq, decide_eq_false_iff_not, Bool.not_eq_true', Bool.not_eq_false', Bool.not_true, Bool.not_false] at h; try exact absurd trivial h))
             | (with_reducible apply go_ret)
             | (with_reducible apply go_skipc))
           | (with_reducible apply go_kseq)
           | (with_reducible apply go_kseq_ret)
  · have e : columnRE g p f t = ([], askedE g p [f, t]) := by simp only [columnRE]; rw [if_pos h]
    rw [e]
    exact finK_ret (fin_nil2 (k := 3) rfl rfl rfl)
  · rename_i h0
    have e : columnRE g p f t = ([], 9) := by simp only [columnRE]; rw [if_neg (by simp [h0]), if_pos h]
    rw [e]
    exact finK_ret (fin_nil2 (k := 3) rfl rfl rfl)
  · rename_i h0
    have hg := okG (asked0 h0).1
    have e : columnRE g p f t = (columnE g p f t, 0) := by simp only [columnRE]; rw [if_neg (by simp [h0]), if_neg h]
    rw [e]
    repeat' first
           | (with_reducible apply go_op)
           | (with_reducible apply go_next)
           | ((with_reducible (show evOp _ _ _ _ _ _)); first
             | ((with_reducible (show evOp _ (.move _) _ _ _ _)) ; first | ((with_reducible apply go_mv_int); rfl; rfl) | ((with_reducible apply go_mv_os); rfl; rfl))
             | ((with_reducible apply go_as))
             | (((with_reducible apply go_fn_fr); rfl; (exact c97 g hg p f t); (exact scalPart); rfl)))
           | ((with_reducible (show evOps _ _ _ _ _ _)); first
             | (with_reducible apply go_nil))
           | ((with_reducible (show evG _ _ _ _ _)); first
             | (with_reducible apply go_ret))
           | (with_reducible apply go_kseq)
    exact finK_ret (fin_fr2 rfl (by simp) rfl rfl rfl)
end Go.Pv.Soil

open Go Go.Proofs Go.Pv
set_option maxHeartbeats 1000000
set_option maxRecDepth 100000
set_option linter.unusedSimpArgs false
set_option linter.unusedVariables false
namespace Go.Pv.Soil

instance teq68 : TEq Try.prog 68 [.s, .i, .i] := ⟨by kernel_rfl⟩
instance tar73 : TArr Try.prog 73 2 1 := ⟨3, by kernel_rfl, by kernel_rfl, by decide⟩
instance tar63 : TArr Try.prog 63 3 1 := ⟨3, by kernel_rfl, by kernel_rfl, by decide⟩

theorem c51 (g : Ground) (hg : OkG g) (p : Pt) (hp : ptOK p = true) (f t : Int) : Contract Try.prog 51 [.agg (encGround g), .agg (encPt p), .int .i64 f, .int .i64 t] (.ret (.fr 3 ((columnE g p f t).map encPart))) := by
  have hn := near_lt (p := p) hg.n.1
  have hb20 := hg.n
  have hll := (hg.bor _ hn).len
  refine contract_of mix Try.func51 rfl rfl (by rw [Try.ntmps51]; exact Nat.le_of_ble_eq_true rfl) ?_; rw [Try.results51, Try.ntmps51]; simp only [argsE, Nat.reduceAdd]
  repeat' first
           | (with_reducible apply go_op)
           | (with_reducible apply go_next)
           | ((with_reducible (show evOp _ _ _ _ _ _)); first
             | ((with_reducible (show evOp _ (.move _) _ _ _ _)) ; first | ((with_reducible apply go_mv_int); rfl; rfl) | ((with_reducible apply go_mv_sl); rfl; rfl) | ((with_reducible apply go_mv_nilsl); rfl; rfl))
             | ((with_reducible apply go_as))
             | ((with_reducible (show evOp _ (.load _ _) _ _ _ _)) ; first | ((with_reducible apply go_ld_agg); rfl; rfl; rfl; rfl) | ((with_reducible apply go_load); rfl; rfl; rfl) | ((with_reducible apply go_load_own); rfl; rfl; rfl; rfl))
             | ((with_reducible (show evOp _ (.fieldAddr _ _ _) _ _ _ _)) ; first | ((with_reducible apply go_fieldAddr); rfl; rfl) | ((with_reducible apply go_fieldAddr_own); rfl; rfl; rfl))
             | (((with_reducible apply go_index_nat); rfl; rfl; (with_reducible rfl); (intro; rfl); rfl; omega; (intro hlt)))
             | (((with_reducible apply go_fn_int); rfl; (exact c47 g hg p hp); rfl))
             | (((with_reducible apply go_bx_agg); rfl; rfl; (exact Nat.le_of_ble_eq_true rfl); rfl; rfl)))
           | ((with_reducible (show evOps _ _ _ _ _ _)); first
             | (with_reducible apply go_nil)
             | ((with_reducible apply go_pre); rfl)
             | (with_reducible apply go_pre_nil)
             | ((with_reducible apply go_suf); rfl)
             | (with_reducible apply go_suf_nil))
           | ((with_reducible (show evG _ _ _ _ _)); first
             | (with_reducible apply go_seq)
             | (with_reducible apply go_region)
             | ((with_reducible apply go_order); kernel_rfl; rfl)
             | (with_reducible apply go_block))
           | (with_reducible apply go_kseq)
           | (with_reducible apply go_ksuf)
  refine go_count g.borings[nearE g p].layers.length (fun i => ⟨[(10, .os 1 0 (colE g.borings[nearE g p] f t i).length), (11, .int .i64 i), (9, .sl (g.borings[nearE g p].layers.map encLayer)), (2, .int .i64 f), (3, .int .i64 t)], [(1, ⟨3, true, (colE g.borings[nearE g p] f t i).map encPart⟩)], 32, 67⟩) (fun i => True) (entails_eq (nx := 32) (k := 3) (ns := [(10, 1)]) (ks := [11, 9, 2, 3]) [] rfl (by simp; rfl) rfl) trivial ?_
  intro i hi hC
  repeat' first
           | (with_reducible apply go_op)
           | (with_reducible apply go_next)
           | ((with_reducible (show evOp _ _ _ _ _ _)); first
             | ((with_reducible (show evOp _ (.move _) _ _ _ _)) ; first | ((with_reducible apply go_mv_int); rfl; rfl) | ((with_reducible apply go_mv_sl); rfl; rfl) | ((with_reducible apply go_mv_os); rfl; rfl))
             | ((with_reducible apply go_as))
             | (((with_reducible apply go_load); rfl; rfl; rfl))
             | (((with_reducible apply go_fieldAddr); rfl; rfl))
             | ((with_reducible (show evOp _ (.indexAddr _ _ _) _ _ _ _)) ; first | ((with_reducible apply go_index_nat); rfl; rfl; (with_reducible rfl); (intro; rfl); rfl; omega; (intro hlt)) | ((with_reducible apply go_index); rfl; rfl; (intro; rfl); rfl; omega; intro hlt))
             | ((with_reducible (show evOp _ (.binOp _ _ _ _ _) _ _ _ _)) ; first | ((with_reducible apply go_cmp); rfl; rfl; rfl; rfl) | ((with_reducible apply go_add); rfl; rfl; rfl; omega))
             | ((with_reducible (show evOp _ (.call _) _ _ _ _)) ; first | ((with_reducible apply go_len); rfl; rfl) | ((with_reducible apply go_min); rfl; rfl; rfl) | ((with_reducible apply go_max); rfl; rfl; rfl))
             | (((with_reducible apply go_bd3_sii); rfl; rfl; rfl; rfl; rfl))
             | (((with_reducible apply go_bs1_agg); rfl; rfl; rfl; rfl; rfl; rfl)))
           | ((with_reducible (show evOps _ _ _ _ _ _)); first
             | (with_reducible apply go_nil))
           | ((with_reducible (show evG _ _ _ _ _)); first
             | (with_reducible apply go_seq)
             | (with_reducible apply go_region)
             | (((with_reducible apply go_cond); rfl) <;> (intro h; simp only [h]; try simp only [decide_eq_true_eq, decide_eq_false_iff_not, Bool.not_eq_true', Bool.not_eq_false', Bool.not_true, Bool.not_false] at h; try exact absurd trivial h))
             | (with_reducible apply go_ret)
             | (with_reducible apply go_skipc)
             | (with_reducible apply go_block)
             | (with_reducible apply go_exit))
           | (with_reducible apply go_kseq)
           | (with_reducible apply go_kblock)
           | (with_reducible apply go_kblock_exit)
           | (with_reducible apply go_kseq_exit)
  all_goals first
    | (refine go_app_map (f := encPart) (a := ⟨_, _, _⟩) (l := colE g.borings[nearE g p] f t i) scalPart rfl rfl rfl rfl rfl rfl (by kernel_rfl) (by kernel_rfl) (by have := colE_len g.borings[nearE g p] f t i; omega) rfl ?_)
    | skip
  repeat' first
           | (with_reducible apply go_op)
           | (with_reducible apply go_next)
           | ((with_reducible (show evOp _ _ _ _ _ _)); first
             | ((with_reducible (show evOp _ (.move _) _ _ _ _)) ; first | ((with_reducible apply go_mv_int); rfl; rfl) | ((with_reducible apply go_mv_os); rfl; rfl))
             | ((with_reducible apply go_as))
             | (((with_reducible apply go_add); rfl; rfl; rfl; omega)))
           | ((with_reducible (show evOps _ _ _ _ _ _)); first
             | (with_reducible apply go_nil))
           | ((with_reducible (show evG _ _ _ _ _)); first
             | (with_reducible apply go_region))
           | (with_reducible apply go_kseq)
           | (with_reducible apply go_kblock)
  all_goals try
    have h2 : i < g.borings[nearE g p].layers.length := by omega
    have e1 : ((i : Int) + 1).toNat = i + 1 := by omega
    simp only [e1] at *
    refine ⟨h2, trivial, ?_⟩
    first
      | (have e := colE_yes (f := f) (t := t) h h2 (by rw [part_top h2]; first | rw [if_pos (by omega)] | rw [if_neg (by omega)]) (by rw [part_bot]; first | rw [dif_pos (by omega)] | rw [dif_neg (by omega)])
         have el : (colE g.borings[nearE g p] f t i).length + 1 = (colE g.borings[nearE g p] f t (i + 1)).length := by rw [← e]; simp
         rw [e, el]
         exact entails_eq (nx := 32) (k := 3) (ns := []) (ks := [10, 11, 9, 2, 3]) [(1, 1)] rfl (by simp) rfl)
      | (rw [← colE_no (f := f) (t := t) h (by rw [part_top h2]; first | rw [if_pos (by omega)] | rw [if_neg (by omega)]) (by rw [part_bot]; first | rw [dif_pos (by omega)] | rw [dif_neg (by omega)])]
         exact entails_eq (nx := 32) (k := 3) (ns := []) (ks := [10, 11, 9, 2, 3]) [(1, 1)] rfl (by simp) rfl)
  refine end_fr rfl rfl ?_
  simp only [columnE, List.getElem?_eq_getElem hn]
  congr 1; omega

theorem c50 (l : List Part) (hl : l.length < 1000000000000) : Contract Try.prog 50 [.sl (l.map encPart), .sl (l.map encPart)] (.ret (.bool true)) := by
  refine contract_of mix Try.func50 rfl rfl (by rw [Try.ntmps50]; exact Nat.le_of_ble_eq_true rfl) ?_; rw [Try.results50, Try.ntmps50]; simp only [argsE, Nat.reduceAdd]
  repeat' first
           | (with_reducible apply go_op)
           | (with_reducible apply go_next)
           | ((with_reducible (show evOp _ _ _ _ _ _)); first
             | ((with_reducible (show evOp _ (.move _) _ _ _ _)) ; first | ((with_reducible apply go_mv_int); rfl; rfl) | ((with_reducible apply go_mv_bool); rfl; rfl) | ((with_reducible apply go_mv_sl); rfl; rfl))
             | ((with_reducible apply go_as))
             | (((with_reducible apply go_cmp); rfl; rfl; rfl; rfl))
             | (((with_reducible apply go_len); rfl; rfl)))
           | ((with_reducible (show evOps _ _ _ _ _ _)); first
             | (with_reducible apply go_nil))
           | ((with_reducible (show evG _ _ _ _ _)); first
             | (with_reducible apply go_seq)
             | (with_reducible apply go_region)
             | (((with_reducible apply go_cond); rfl) <;> (intro h; simp only [h]; try simp only [decide_eq_true_eq, decide_eq_false_iff_not, Bool.not_eq_true', Bool.not_eq_false', Bool.not_true, Bool.not_false] at h; try exact absurd trivial h))
             | (with_reducible apply go_skipc)
             | (with_reducible apply go_block))
           | (with_reducible apply go_kseq)
  refine go_count (l.length) (fun i => ⟨[(5, .int .i64 i), (0, .sl (l.map encPart)), (1, .sl (l.map encPart))], [], 0, 26⟩) (fun i => True) (entails_eq (k := 0) (ns := []) (ks := [5, 0, 1]) [] rfl (by simp) rfl) trivial ?_
  intro i hi hC
  repeat' first
           | (with_reducible apply go_op)
           | (with_reducible apply go_next)
           | ((with_reducible (show evOp _ _ _ _ _ _)); first
             | ((with_reducible (show evOp _ (.move _) _ _ _ _)) ; first | ((with_reducible apply go_mv_int); rfl; rfl) | ((with_reducible apply go_mv_bool); rfl; rfl) | ((with_reducible apply go_mv_sl); rfl; rfl))
             | ((with_reducible apply go_as))
             | (((with_reducible apply go_ld_ptr); rfl; rfl; rfl))
             | (((with_reducible apply go_index_nat); rfl; rfl; (with_reducible rfl); (intro; rfl); rfl; omega; (intro hlt)))
             | ((with_reducible (show evOp _ (.binOp _ _ _ _ _) _ _ _ _)) ; first | ((with_reducible apply go_cmp); rfl; rfl; rfl; rfl) | ((with_reducible apply go_add); rfl; rfl; rfl; omega) | ((with_reducible apply go_neq_agg); rfl; rfl; rfl; rfl))
             | (((with_reducible apply go_len); rfl; rfl)))
           | ((with_reducible (show evOps _ _ _ _ _ _)); first
             | (with_reducible apply go_nil)
             | ((with_reducible apply go_pre); rfl)
             | (with_reducible apply go_pre_nil)
             | ((with_reducible apply go_suf); rfl)
             | (with_reducible apply go_suf_nil))
           | ((with_reducible (show evG _ _ _ _ _)); first
             | (with_reducible apply go_seq)
             | (with_reducible apply go_region)
             | (((with_reducible apply go_cond); rfl) <;> (intro h; simp only [h]; try simp only [decide_eq_true_eq, decide_eq_false_iff_not, Bool.not_eq_true', Bool.not_eq_false', Bool.not_true, Bool.not_false] at h; try exact absurd trivial h))
             | ((with_reducible apply go_order); kernel_rfl; rfl)
             | (with_reducible apply go_ret)
             | (with_reducible apply go_skipc)
             | (with_reducible apply go_block)
             | (with_reducible apply go_exit))
           | (with_reducible apply go_kseq)
           | (with_reducible apply go_ksuf)
           | (with_reducible apply go_kseq_ret)
           | (with_reducible apply go_kblock)
           | (with_reducible apply go_kblock_ret)
           | (with_reducible apply go_kblock_exit)
           | (with_reducible apply go_kseq_exit)
           | ((with_reducible apply end_bool); rfl)
           | (with_reducible rfl)
  · simp at h
  · exact ⟨by omega, trivial, entails_eq (k := 0) (ns := []) (ks := [5, 0, 1]) [] rfl (by simp) rfl⟩
end Go.Pv.Soil

open Go Go.Proofs Go.Pv
set_option maxHeartbeats 1000000
set_option maxRecDepth 100000
set_option linter.unusedSimpArgs false
set_option linter.unusedVariables false
namespace Go.Pv.Soil

theorem c23 (g : Ground) (hl : g.soils.length < 1000000000000) (hb : g.borings.length < 1000000000000) : Contract Try.prog 23 [.agg (encGround g)] (.ret (.int .i64 (groundE g))) := by
  refine contract_of mix Try.func23 rfl rfl (by rw [Try.ntmps23]; exact Nat.le_of_ble_eq_true rfl) ?_; rw [Try.results23, Try.ntmps23]; simp only [argsE, Nat.reduceAdd]
  repeat' first
           | (with_reducible apply go_op)
           | (with_reducible apply go_next)
           | ((with_reducible (show evOp _ _ _ _ _ _)); first
             | (((with_reducible apply go_mv_int); rfl; rfl))
             | ((with_reducible apply go_as))
             | (((with_reducible apply go_load_own); rfl; rfl; rfl; rfl))
             | (((with_reducible apply go_fieldAddr_own); rfl; rfl; rfl))
             | (((with_reducible apply go_cmp); rfl; rfl; rfl; rfl))
             | ((with_reducible (show evOp _ (.call _) _ _ _ _)) ; first | ((with_reducible apply go_len); rfl; rfl) | ((with_reducible apply go_fn_int); rfl; (exact c21 g.soils hl); rfl))
             | (((with_reducible apply go_bx_agg); rfl; rfl; (exact Nat.le_of_ble_eq_true rfl); rfl; rfl)))
           | ((with_reducible (show evOps _ _ _ _ _ _)); first
             | (with_reducible apply go_nil))
           | ((with_reducible (show evG _ _ _ _ _)); first
             | (with_reducible apply go_seq)
             | (with_reducible apply go_region)
             | (((with_reducible apply go_cond); rfl) <;> (intro h; simp only [h]; try simp only [decide_eq_true_eq, decide_eq_false_iff_not, Bool.not_eq_true', Bool.not_eq_false', Bool.not_true, Bool.not_false] at h; try exact absurd trivial h))
             | (with_reducible apply go_ret)
             | (with_reducible apply go_skipc)
             | (with_reducible apply go_block))
           | (with_reducible apply go_kseq)
           | (with_reducible apply go_kseq_ret)
           | ((with_reducible apply end_int); rfl)
  · simp only [groundE]; rw [if_pos h]
  · simp only [groundE]; rw [if_neg (by simp [*]), if_pos (by omega)]
  · simp only [groundE]; rw [if_neg (by simp [*]), if_neg (by omega), if_pos (by omega)]
  have hs : groundE g = eachE (·.name) (borE g.soils) g.borings := by
    simp only [groundE]; rw [if_neg (by simp [*]), if_neg (by omega), if_neg (by omega)]
  rw [hs]
  refine go_count g.borings.length (fun i => ⟨[(4, .int .i64 i), (1, .op 0 0 0)], [(0, ⟨2, true, [encGround g]⟩)], 32, 65⟩) (fun i => ∀ j, j < i → stepE (·.name) (borE g.soils) g.borings j = 0)
    (entails_eq (k := 0) (ns := []) (ks := [4, 1]) [(0, 0)] rfl (by simp) rfl) (by omega) ?_
  intro i hi hC
  repeat' first
           | (with_reducible apply go_op)
           | (with_reducible apply go_next)
           | ((with_reducible (show evOp _ _ _ _ _ _)); first
             | (((with_reducible apply go_mv_int); rfl; rfl))
             | ((with_reducible apply go_as))
             | ((with_reducible (show evOp _ (.load _ _) _ _ _ _)) ; first | ((with_reducible apply go_load); rfl; rfl; rfl) | ((with_reducible apply go_load_own); rfl; rfl; rfl; rfl))
             | ((with_reducible (show evOp _ (.fieldAddr _ _ _) _ _ _ _)) ; first | ((with_reducible apply go_fieldAddr); rfl; rfl) | ((with_reducible apply go_fieldAddr_own); rfl; rfl; rfl))
             | (((with_reducible apply go_index); rfl; rfl; (intro; rfl); rfl; omega; intro hlt))
             | (((with_reducible apply go_cmp); rfl; rfl; rfl; rfl))
             | ((with_reducible (show evOp _ (.call _) _ _ _ _)) ; first | ((with_reducible apply go_len); rfl; rfl) | ((with_reducible apply go_fn_bool); rfl; (exact c83 _); rfl))
             | (((with_reducible apply go_not); rfl; rfl)))
           | ((with_reducible (show evOps _ _ _ _ _ _)); first
             | (with_reducible apply go_nil))
           | ((with_reducible (show evG _ _ _ _ _)); first
             | (with_reducible apply go_seq)
             | (with_reducible apply go_region)
             | (((with_reducible apply go_cond); rfl) <;> (intro h; simp only [h]; try simp only [decide_eq_true_eq, decide_eq_false_iff_not, Bool.not_eq_true', Bool.not_eq_false', Bool.not_true, Bool.not_false] at h; try exact absurd trivial h))
             | (with_reducible apply go_ret)
             | (with_reducible apply go_skipc)
             | (with_reducible apply go_block)
             | (with_reducible apply go_exit))
           | (with_reducible apply go_kseq)
           | (with_reducible apply go_kseq_ret)
           | (with_reducible apply go_kblock_ret)
           | (with_reducible apply go_kblock_exit)
           | (with_reducible apply go_kseq_exit)
           | ((with_reducible apply end_int); rfl)
  · have h2 : i < g.borings.length := by omega
    simp only [Int.toNat_natCast] at h
    exact each_at h2 hC (by simp only [stepE, List.getElem?_eq_getElem h2, h]; simp) (by decide)
  · have h2 : i < g.borings.length := by omega
    simp only [Int.toNat_natCast] at h
    have hnm := h
    refine go_count i (fun j => ⟨[(5, .int .i64 j), (4, .int .i64 i), (1, .op 0 0 0)], [(0, ⟨2, true, [encGround g]⟩)], 32, 65⟩) (fun j => ∀ k (hk : k < j) (hk' : k < g.borings.length), ¬ g.borings[k].name = g.borings[i].name)
      (entails_eq (k := 0) (ns := []) (ks := [5, 4, 1]) [(0, 0)] rfl (by simp) rfl) (by omega) ?_
    intro j hj hC2
    repeat' first
           | (with_reducible apply go_op)
           | (with_reducible apply go_next)
           | ((with_reducible (show evOp _ _ _ _ _ _)); first
             | (((with_reducible apply go_mv_int); rfl; rfl))
             | ((with_reducible apply go_as))
             | ((with_reducible (show evOp _ (.load _ _) _ _ _ _)) ; first | ((with_reducible apply go_load); rfl; rfl; rfl) | ((with_reducible apply go_load_own); rfl; rfl; rfl; rfl))
             | ((with_reducible (show evOp _ (.fieldAddr _ _ _) _ _ _ _)) ; first | ((with_reducible apply go_fieldAddr); rfl; rfl) | ((with_reducible apply go_fieldAddr_own); rfl; rfl; rfl))
             | (((with_reducible apply go_index); rfl; rfl; (intro; rfl); rfl; omega; intro hlt))
             | ((with_reducible (show evOp _ (.binOp _ _ _ _ _) _ _ _ _)) ; first | ((with_reducible apply go_cmp); rfl; rfl; rfl; rfl) | ((with_reducible apply go_add); rfl; rfl; rfl; omega) | ((with_reducible apply go_bin); rfl; rfl))
             | (((with_reducible apply go_fn_int); rfl; (exact c89 g.soils g.borings[i] hl); rfl)))
           | ((with_reducible (show evOps _ _ _ _ _ _)); first
             | (with_reducible apply go_nil)
             | ((with_reducible apply go_pre); rfl)
             | (with_reducible apply go_pre_nil)
             | ((with_reducible apply go_suf); rfl)
             | (with_reducible apply go_suf_nil))
           | ((with_reducible (show evG _ _ _ _ _)); first
             | (with_reducible apply go_seq)
             | (with_reducible apply go_region)
             | (((with_reducible apply go_cond); rfl) <;> (intro h; simp only [h]; try simp only [decide_eq_true_eq, decide_eq_false_iff_not, Bool.not_eq_true', Bool.not_eq_false', Bool.not_true, Bool.not_false] at h; try exact absurd trivial h))
             | ((with_reducible apply go_order); kernel_rfl; rfl)
             | (with_reducible apply go_ret)
             | (with_reducible apply go_skipc)
             | (with_reducible apply go_block)
             | (with_reducible apply go_exit))
           | (with_reducible apply go_kseq)
           | (with_reducible apply go_ksuf)
           | (with_reducible apply go_kseq_ret)
           | (with_reducible apply go_kblock)
           | (with_reducible apply go_kblock_ret)
           | (with_reducible apply go_kblock_exit)
           | (with_reducible apply go_kseq_exit)
           | ((with_reducible apply end_int); rfl)
    all_goals try simp only [Int.toNat_natCast] at *
    · have h3 : ((g.borings.take i).any fun y => decide (y.name = g.borings[i].name)) = true := by
        rw [List.any_eq_true]
        exact ⟨g.borings[j]'(by omega), List.mem_iff_getElem.2 ⟨j, by simp; omega, by simp⟩, by simpa using h⟩
      exact each_at h2 hC (by simp only [stepE, List.getElem?_eq_getElem h2, h3, hnm]; simp) (by decide)
    · refine ⟨by omega, fun k hk hk' => ?_, entails_eq (k := 0) (ns := []) (ks := [5, 4, 1]) [(0, 0)] rfl (by simp) rfl⟩
      rcases Nat.lt_succ_iff_lt_or_eq.1 hk with h' | rfl
      · exact hC2 k h' hk'
      · exact h
    all_goals
      have h3 : ((g.borings.take i).any fun y => decide (y.name = g.borings[i].name)) = false := by
        rw [List.any_eq_false]
        intro y hy
        obtain ⟨k, hk, rfl⟩ := List.mem_iff_getElem.1 hy
        simp only [List.length_take] at hk
        simpa using hC2 k (by omega) (by omega)
    · exact each_at h2 hC (by simp only [stepE, List.getElem?_eq_getElem h2, h3, hnm]; simp) h
    · refine ⟨h2, fun k hk => ?_, entails_eq (k := 0) (ns := []) (ks := [4, 1]) [(0, 0)] rfl (by simp) rfl⟩
      rcases Nat.lt_succ_iff_lt_or_eq.1 hk with h' | rfl
      · exact hC k h'
      · simp only [stepE, List.getElem?_eq_getElem h2, h3, hnm]; simpa using h
  · exact (firstE_zero fun j hj => hC j (by omega)).symm
end Go.Pv.Soil

open Go Go.Proofs Go.Pv
set_option maxHeartbeats 1000000
set_option maxRecDepth 100000
set_option linter.unusedSimpArgs false
set_option linter.unusedVariables false
namespace Go.Pv.Soil

/-- The inputs that the laws look at. -/
def slightB (b : Boring) : Bool := decide (b.name.size ≤ 50) && decide (b.layers.length ≤ 14) && b.layers.all fun l => decide (l.soil.size ≤ 50)
def slightE (g : Ground) : Bool := decide (g.soils.length ≤ 10) && decide (g.borings.length ≤ 22) && g.soils.all (fun s => decide (s.name.size ≤ 50)) && g.borings.all slightB

theorem slight_soil {g : Ground} {i : Nat} (hi : i < g.soils.length) (h : ¬ g.soils[i].name.size ≤ 50) : false = slightE g := by
  have : g.soils.all (fun s => decide (s.name.size ≤ 50)) = false := by
    rw [List.all_eq_false]
    exact ⟨_, List.getElem_mem hi, by simpa using h⟩
  simp only [slightE, this, Bool.and_false, Bool.false_and]
theorem slight_bor {g : Ground} {i : Nat} (hi : i < g.borings.length) (h : slightB g.borings[i] = false) : false = slightE g := by
  have : g.borings.all slightB = false := by
    rw [List.all_eq_false]
    exact ⟨_, List.getElem_mem hi, by simp [h]⟩
  simp only [slightE, this, Bool.and_false]
theorem slightB_lay {b : Boring} {i : Nat} (hi : i < b.layers.length) (h : ¬ b.layers[i].soil.size ≤ 50) : slightB b = false := by
  have : (b.layers.all fun l => decide (l.soil.size ≤ 50)) = false := by
    rw [List.all_eq_false]
    exact ⟨_, List.getElem_mem hi, by simpa using h⟩
  simp only [slightB, this, Bool.and_false]
theorem slightB_no {b : Boring} (h : ¬ b.name.size ≤ 50 ∨ ¬ b.layers.length ≤ 14) : slightB b = false := by
  rcases h with h | h
  · simp only [slightB, decide_eq_false h, Bool.false_and]
  · simp only [slightB, decide_eq_false h, Bool.and_false, Bool.false_and]
theorem slightB_yes {b : Boring} (h1 : b.name.size ≤ 50) (h2 : b.layers.length ≤ 14) (h : ∀ i (hi : i < b.layers.length), b.layers[i].soil.size ≤ 50) : slightB b = true := by
  simp only [slightB, Bool.and_eq_true, decide_eq_true_eq, List.all_eq_true]
  refine ⟨⟨h1, h2⟩, fun l hl => ?_⟩
  obtain ⟨i, hi, rfl⟩ := List.mem_iff_getElem.1 hl
  exact h i hi
theorem slight_yes {g : Ground} (h1 : g.soils.length ≤ 10) (h2 : g.borings.length ≤ 22) (h3 : ∀ i (hi : i < g.soils.length), g.soils[i].name.size ≤ 50) (h4 : ∀ i (hi : i < g.borings.length), slightB g.borings[i] = true) : true = slightE g := by
  symm
  simp only [slightE, Bool.and_eq_true, decide_eq_true_eq, List.all_eq_true]
  refine ⟨⟨⟨h1, h2⟩, fun l hl => ?_⟩, fun l hl => ?_⟩
  · obtain ⟨i, hi, rfl⟩ := List.mem_iff_getElem.1 hl
    exact h3 i hi
  · obtain ⟨i, hi, rfl⟩ := List.mem_iff_getElem.1 hl
    exact h4 i hi

theorem c19 (g : Ground) : Contract Try.prog 19 [.agg (encGround g)] (.ret (.bool (slightE g))) := by
  refine contract_of mix Try.func19 rfl rfl (by rw [Try.ntmps19]; exact Nat.le_of_ble_eq_true rfl) ?_; rw [Try.results19, Try.ntmps19]; simp only [argsE, Nat.reduceAdd]
  repeat' first
           | (with_reducible apply go_op)
           | (with_reducible apply go_next)
           | ((with_reducible (show evOp _ _ _ _ _ _)); first
             | ((with_reducible (show evOp _ (.move _) _ _ _ _)) ; first | ((with_reducible apply go_mv_int); rfl; rfl) | ((with_reducible apply go_mv_bool); rfl; rfl))
             | ((with_reducible apply go_as))
             | (((with_reducible apply go_load_own); rfl; rfl; rfl; rfl))
             | (((with_reducible apply go_fieldAddr_own); rfl; rfl; rfl))
             | (((with_reducible apply go_cmp); rfl; rfl; rfl; rfl))
             | (((with_reducible apply go_len); rfl; rfl))
             | (((with_reducible apply go_pick); rfl; rfl; rfl))
             | (((with_reducible apply go_bx_agg); rfl; rfl; (exact Nat.le_of_ble_eq_true rfl); rfl; rfl)))
           | ((with_reducible (show evOps _ _ _ _ _ _)); first
             | (with_reducible apply go_nil)
             | ((with_reducible apply go_run); rfl; rfl)
             | ((with_reducible apply go_pass); rfl; rfl; rfl)
             | (((with_reducible apply go_guard); rfl) <;> (intro h; simp only [h, Bool.not_true, Bool.not_false]; (try with_reducible (refine ⟨rfl, ?_⟩)); try simp only [decide_eq_true_eq, decide_eq_false_iff_not, Bool.not_eq_true', Bool.not_eq_false', Bool.not_true, Bool.not_false] at h; try exact absurd trivial h)))
           | ((with_reducible (show evG _ _ _ _ _)); first
             | (with_reducible apply go_seq)
             | (with_reducible apply go_region)
             | ((with_reducible apply go_cond_t); rfl; rfl)
             | (((with_reducible apply go_cond); rfl) <;> (intro h; simp only [h]; try simp only [decide_eq_true_eq, decide_eq_false_iff_not, Bool.not_eq_true', Bool.not_eq_false', Bool.not_true, Bool.not_false] at h; try exact absurd trivial h))
             | (with_reducible apply go_ret)
             | (with_reducible apply go_skipc)
             | (with_reducible apply go_block))
           | (with_reducible apply go_kseq)
           | (with_reducible apply go_kseq_ret)
           | ((with_reducible apply end_bool); rfl)
  · simp only [slightE, decide_eq_false (show ¬ g.borings.length ≤ 22 by omega), Bool.and_false, Bool.false_and]
  rotate_left
  · simp only [slightE, decide_eq_false (show ¬ g.soils.length ≤ 10 by omega), Bool.false_and]
  refine go_count g.soils.length (fun i => ⟨[(3, .int .i64 i), (1, .op 0 0 0)], [(0, ⟨2, true, [encGround g]⟩)], 32, 79⟩) (fun i => ∀ j (hj : j < i) (hj' : j < g.soils.length), g.soils[j].name.size ≤ 50)
    (entails_eq (k := 0) (ns := []) (ks := [3, 1]) [(0, 0)] rfl (by simp) rfl) (by omega) ?_
  intro i hi hC
  repeat' first
           | (with_reducible apply go_op)
           | (with_reducible apply go_next)
           | ((with_reducible (show evOp _ _ _ _ _ _)); first
             | ((with_reducible (show evOp _ (.move _) _ _ _ _)) ; first | ((with_reducible apply go_mv_int); rfl; rfl) | ((with_reducible apply go_mv_bool); rfl; rfl))
             | ((with_reducible apply go_as))
             | ((with_reducible (show evOp _ (.load _ _) _ _ _ _)) ; first | ((with_reducible apply go_load); rfl; rfl; rfl) | ((with_reducible apply go_load_own); rfl; rfl; rfl; rfl))
             | ((with_reducible (show evOp _ (.fieldAddr _ _ _) _ _ _ _)) ; first | ((with_reducible apply go_fieldAddr); rfl; rfl) | ((with_reducible apply go_fieldAddr_own); rfl; rfl; rfl))
             | (((with_reducible apply go_index); rfl; rfl; (intro; rfl); rfl; omega; intro hlt))
             | ((with_reducible (show evOp _ (.binOp _ _ _ _ _) _ _ _ _)) ; first | ((with_reducible apply go_cmp); rfl; rfl; rfl; rfl) | ((with_reducible apply go_add); rfl; rfl; rfl; omega))
             | ((with_reducible (show evOp _ (.call _) _ _ _ _)) ; first | ((with_reducible apply go_len); rfl; rfl) | ((with_reducible apply go_len_str); rfl; rfl)))
           | ((with_reducible (show evOps _ _ _ _ _ _)); first
             | (with_reducible apply go_nil))
           | ((with_reducible (show evG _ _ _ _ _)); first
             | (with_reducible apply go_seq)
             | (with_reducible apply go_region)
             | (((with_reducible apply go_cond); rfl) <;> (intro h; simp only [h]; try simp only [decide_eq_true_eq, decide_eq_false_iff_not, Bool.not_eq_true', Bool.not_eq_false', Bool.not_true, Bool.not_false] at h; try exact absurd trivial h))
             | (with_reducible apply go_ret)
             | (with_reducible apply go_skipc)
             | (with_reducible apply go_block)
             | (with_reducible apply go_exit))
           | (with_reducible apply go_kseq)
           | (with_reducible apply go_kseq_ret)
           | (with_reducible apply go_kblock)
           | (with_reducible apply go_kblock_ret)
           | (with_reducible apply go_kblock_exit)
           | (with_reducible apply go_kseq_exit)
           | ((with_reducible apply end_bool); rfl)
  all_goals try simp only [Int.toNat_natCast] at *
  · have h2 : i < g.soils.length := by omega
    exact slight_soil h2 (by omega)
  · have h2 : i < g.soils.length := by omega
    refine ⟨h2, fun j hj hj' => ?_, entails_eq (k := 0) (ns := []) (ks := [3, 1]) [(0, 0)] rfl (by simp) rfl⟩
    rcases Nat.lt_succ_iff_lt_or_eq.1 hj with h' | rfl
    · exact hC j h' hj'
    · omega
  have hS : ∀ j (hj : j < g.soils.length), g.soils[j].name.size ≤ 50 := fun j hj => hC j (by omega) hj
  refine go_count g.borings.length (fun i => ⟨[(4, .int .i64 i), (1, .op 0 0 0)], [(0, ⟨2, true, [encGround g]⟩)], 32, 79⟩) (fun i => ∀ j (hj : j < i) (hj' : j < g.borings.length), slightB g.borings[j] = true)
    (entails_eq (k := 0) (ns := []) (ks := [4, 1]) [(0, 0)] rfl (by simp) rfl) (by omega) ?_
  clear hC hi h
  clear i
  intro i hi hC
  repeat' first
           | (with_reducible apply go_op)
           | (with_reducible apply go_next)
           | ((with_reducible (show evOp _ _ _ _ _ _)); first
             | ((with_reducible (show evOp _ (.move _) _ _ _ _)) ; first | ((with_reducible apply go_mv_int); rfl; rfl) | ((with_reducible apply go_mv_bool); rfl; rfl))
             | ((with_reducible apply go_as))
             | ((with_reducible (show evOp _ (.load _ _) _ _ _ _)) ; first | ((with_reducible apply go_load); rfl; rfl; rfl) | ((with_reducible apply go_load_own); rfl; rfl; rfl; rfl))
             | ((with_reducible (show evOp _ (.fieldAddr _ _ _) _ _ _ _)) ; first | ((with_reducible apply go_fieldAddr); rfl; rfl) | ((with_reducible apply go_fieldAddr_own); rfl; rfl; rfl))
             | (((with_reducible apply go_index); rfl; rfl; (intro; rfl); rfl; omega; intro hlt))
             | (((with_reducible apply go_cmp); rfl; rfl; rfl; rfl))
             | ((with_reducible (show evOp _ (.call _) _ _ _ _)) ; first | ((with_reducible apply go_len); rfl; rfl) | ((with_reducible apply go_len_str); rfl; rfl))
             | (((with_reducible apply go_pick); rfl; rfl; rfl)))
           | ((with_reducible (show evOps _ _ _ _ _ _)); first
             | (with_reducible apply go_nil)
             | ((with_reducible apply go_run); rfl; rfl)
             | ((with_reducible apply go_pass); rfl; rfl; rfl)
             | (((with_reducible apply go_guard); rfl) <;> (intro h; simp only [h, Bool.not_true, Bool.not_false]; (try with_reducible (refine ⟨rfl, ?_⟩)); try simp only [decide_eq_true_eq, decide_eq_false_iff_not, Bool.not_eq_true', Bool.not_eq_false', Bool.not_true, Bool.not_false] at h; try exact absurd trivial h)))
           | ((with_reducible (show evG _ _ _ _ _)); first
             | (with_reducible apply go_seq)
             | (with_reducible apply go_region)
             | ((with_reducible apply go_cond_t); rfl; rfl)
             | (((with_reducible apply go_cond); rfl) <;> (intro h; simp only [h]; try simp only [decide_eq_true_eq, decide_eq_false_iff_not, Bool.not_eq_true', Bool.not_eq_false', Bool.not_true, Bool.not_false] at h; try exact absurd trivial h))
             | (with_reducible apply go_ret)
             | (with_reducible apply go_skipc)
             | (with_reducible apply go_block)
             | (with_reducible apply go_exit))
           | (with_reducible apply go_kseq)
           | (with_reducible apply go_kseq_ret)
           | (with_reducible apply go_kblock_ret)
           | (with_reducible apply go_kblock_exit)
           | (with_reducible apply go_kseq_exit)
           | ((with_reducible apply end_bool); rfl)
  all_goals try simp only [Int.toNat_natCast] at *
  · have h2 : i < g.borings.length := by omega
    exact slight_bor h2 (slightB_no (.inr (by omega)))
  rotate_left
  · have h2 : i < g.borings.length := by omega
    exact slight_bor h2 (slightB_no (.inl (by omega)))
  · exact slight_yes (by omega) (by omega) hS fun j hj => hC j (by omega) hj
  have h2 : i < g.borings.length := by omega
  refine go_count g.borings[i].layers.length (fun j => ⟨[(5, .int .i64 j), (4, .int .i64 i), (1, .op 0 0 0)], [(0, ⟨2, true, [encGround g]⟩)], 32, 79⟩) (fun j => ∀ k (hk : k < j) (hk' : k < g.borings[i].layers.length), g.borings[i].layers[k].soil.size ≤ 50)
    (entails_eq (k := 0) (ns := []) (ks := [5, 4, 1]) [(0, 0)] rfl (by simp) rfl) (by omega) ?_
  intro j hj hC2
  repeat' first
           | (with_reducible apply go_op)
           | (with_reducible apply go_next)
           | ((with_reducible (show evOp _ _ _ _ _ _)); first
             | ((with_reducible (show evOp _ (.move _) _ _ _ _)) ; first | ((with_reducible apply go_mv_int); rfl; rfl) | ((with_reducible apply go_mv_bool); rfl; rfl))
             | ((with_reducible apply go_as))
             | ((with_reducible (show evOp _ (.load _ _) _ _ _ _)) ; first | ((with_reducible apply go_load); rfl; rfl; rfl) | ((with_reducible apply go_load_own); rfl; rfl; rfl; rfl))
             | ((with_reducible (show evOp _ (.fieldAddr _ _ _) _ _ _ _)) ; first | ((with_reducible apply go_fieldAddr); rfl; rfl) | ((with_reducible apply go_fieldAddr_own); rfl; rfl; rfl))
             | (((with_reducible apply go_index); rfl; rfl; (intro; rfl); rfl; omega; intro hlt))
             | ((with_reducible (show evOp _ (.binOp _ _ _ _ _) _ _ _ _)) ; first | ((with_reducible apply go_cmp); rfl; rfl; rfl; rfl) | ((with_reducible apply go_add); rfl; rfl; rfl; omega))
             | ((with_reducible (show evOp _ (.call _) _ _ _ _)) ; first | ((with_reducible apply go_len); rfl; rfl) | ((with_reducible apply go_len_str); rfl; rfl)))
           | ((with_reducible (show evOps _ _ _ _ _ _)); first
             | (with_reducible apply go_nil))
           | ((with_reducible (show evG _ _ _ _ _)); first
             | (with_reducible apply go_seq)
             | (with_reducible apply go_region)
             | (((with_reducible apply go_cond); rfl) <;> (intro h; simp only [h]; try simp only [decide_eq_true_eq, decide_eq_false_iff_not, Bool.not_eq_true', Bool.not_eq_false', Bool.not_true, Bool.not_false] at h; try exact absurd trivial h))
             | (with_reducible apply go_ret)
             | (with_reducible apply go_skipc)
             | (with_reducible apply go_block)
             | (with_reducible apply go_exit))
           | (with_reducible apply go_kseq)
           | (with_reducible apply go_kseq_ret)
           | (with_reducible apply go_kblock)
           | (with_reducible apply go_kblock_ret)
           | (with_reducible apply go_kblock_exit)
           | (with_reducible apply go_kseq_exit)
           | ((with_reducible apply end_bool); rfl)
  all_goals try simp only [Int.toNat_natCast] at *
  · have h3 : j < g.borings[i].layers.length := by omega
    exact slight_bor h2 (slightB_lay h3 (by omega))
  · refine ⟨by omega, fun k hk hk' => ?_, entails_eq (k := 0) (ns := []) (ks := [5, 4, 1]) [(0, 0)] rfl (by simp) rfl⟩
    rcases Nat.lt_succ_iff_lt_or_eq.1 hk with h' | rfl
    · exact hC2 k h' hk'
    · omega
  · refine ⟨h2, fun k hk hk' => ?_, entails_eq (k := 0) (ns := []) (ks := [4, 1]) [(0, 0)] rfl (by simp) rfl⟩
    rcases Nat.lt_succ_iff_lt_or_eq.1 hk with h' | rfl
    · exact hC k h' hk'
    · exact slightB_yes (by omega) (by omega) fun k hk => hC2 k (by omega) hk
end Go.Pv.Soil

open Go Go.Proofs Go.Pv
set_option maxHeartbeats 1000000
set_option maxRecDepth 100000
set_option linter.unusedSimpArgs false
set_option linter.unusedVariables false
namespace Go.Pv.Soil

def okB (o : Option Outc) : Bool := match o with | some (.ret (.bool b)) => b | _ => false
theorem okB_ok {f : FuncId} {ds : List D} {n k : Nat} (h : okB (runF Try.prog n k f ds) = true) : Contract Try.prog f ds (.ret (.bool true)) := by
  refine runF_ok mix k f ds _ (fuel := n) ?_
  unfold okB at h
  split at h
  · rename_i b hb; rw [hb, h]
  · cases h

/-- The document's examples hold: worked out. -/
theorem c18 : Contract Try.prog 18 [] (.ret (.bool true)) := okB_ok (n := 1000) (k := 20) (by kernel_rfl)

theorem slight_len {g : Ground} (h : slightE g = true) : g.soils.length ≤ 10 ∧ g.borings.length ≤ 22 := by
  simp only [slightE, Bool.and_eq_true, decide_eq_true_eq] at h
  exact ⟨h.1.1.1, h.1.1.2⟩

theorem c3 (g : Ground) : Contract Try.prog 3 [.agg (encGround g)] (.ret (.bool true)) := by
  cases hs : slightE g
  · have h19 : Contract Try.prog 19 [.agg (encGround g)] (.ret (.bool false)) := hs ▸ c19 g
    refine contract_of mix Try.func3 rfl rfl (by rw [Try.ntmps3]; exact Nat.le_of_ble_eq_true rfl) ?_; rw [Try.results3, Try.ntmps3]; simp only [argsE, Nat.reduceAdd]
    repeat' first
           | (with_reducible apply go_op)
           | (with_reducible apply go_next)
           | ((with_reducible (show evOp _ _ _ _ _ _)); first
             | (((with_reducible apply go_mv_bool); rfl; rfl))
             | ((with_reducible apply go_as))
             | (((with_reducible apply go_load_own); rfl; rfl; rfl; rfl))
             | ((with_reducible (show evOp _ (.call _) _ _ _ _)) ; first | ((with_reducible apply go_fn_bool); rfl; (exact c18); rfl) | ((with_reducible apply go_fn_bool); rfl; (exact h19); rfl))
             | (((with_reducible apply go_not); rfl; rfl))
             | (((with_reducible apply go_pick); rfl; rfl; rfl))
             | (((with_reducible apply go_bx_agg); rfl; rfl; (exact Nat.le_of_ble_eq_true rfl); rfl; rfl)))
           | ((with_reducible (show evOps _ _ _ _ _ _)); first
             | (with_reducible apply go_nil)
             | ((with_reducible apply go_pass); rfl; rfl; rfl)
             | ((with_reducible apply go_skip); rfl; rfl)
             | ((with_reducible apply go_pre); rfl)
             | (with_reducible apply go_pre_nil)
             | ((with_reducible apply go_suf); rfl)
             | (with_reducible apply go_suf_nil))
           | ((with_reducible (show evG _ _ _ _ _)); first
             | (with_reducible apply go_seq)
             | (with_reducible apply go_region)
             | ((with_reducible apply go_cond_f); rfl; rfl)
             | ((with_reducible apply go_order); kernel_rfl; rfl)
             | (with_reducible apply go_ret)
             | (with_reducible apply go_skipc))
           | (with_reducible apply go_kseq)
           | (with_reducible apply go_ksuf)
           | ((with_reducible apply end_bool); rfl)
           | (with_reducible rfl)
  · have h19 : Contract Try.prog 19 [.agg (encGround g)] (.ret (.bool true)) := hs ▸ c19 g
    obtain ⟨hl, hb⟩ := slight_len hs
    refine contract_of mix Try.func3 rfl rfl (by rw [Try.ntmps3]; exact Nat.le_of_ble_eq_true rfl) ?_; rw [Try.results3, Try.ntmps3]; simp only [argsE, Nat.reduceAdd]
    repeat' first
           | (with_reducible apply go_op)
           | (with_reducible apply go_next)
           | ((with_reducible (show evOp _ _ _ _ _ _)); first
             | (((with_reducible apply go_mv_bool); rfl; rfl))
             | ((with_reducible apply go_as))
             | (((with_reducible apply go_load_own); rfl; rfl; rfl; rfl))
             | (((with_reducible apply go_fieldAddr_own); rfl; rfl; rfl))
             | (((with_reducible apply go_cmp); rfl; rfl; rfl; rfl))
             | ((with_reducible (show evOp _ (.call _) _ _ _ _)) ; first | ((with_reducible apply go_fn_bool); rfl; (exact c18); rfl) | ((with_reducible apply go_fn_bool); rfl; (exact h19); rfl) | ((with_reducible apply go_fn_int); rfl; (exact c20 g.soils (by omega)); rfl) | ((with_reducible apply go_fn_int); rfl; (exact c21 g.soils (by omega)); rfl) | ((with_reducible apply go_fn_int); rfl; (exact c22 g (by omega) (by omega)); rfl) | ((with_reducible apply go_fn_int); rfl; (exact c23 g (by omega) (by omega)); rfl))
             | (((with_reducible apply go_not); rfl; rfl))
             | (((with_reducible apply go_pick); rfl; rfl; rfl))
             | (((with_reducible apply go_bx_agg); rfl; rfl; (exact Nat.le_of_ble_eq_true rfl); rfl; rfl)))
           | ((with_reducible (show evOps _ _ _ _ _ _)); first
             | (with_reducible apply go_nil)
             | ((with_reducible apply go_run); rfl; rfl)
             | (((with_reducible apply go_guard); rfl) <;> (intro h; simp only [h, Bool.not_true, Bool.not_false]; (try with_reducible (refine ⟨rfl, ?_⟩)); try simp only [decide_eq_true_eq, decide_eq_false_iff_not, Bool.not_eq_true', Bool.not_eq_false', Bool.not_true, Bool.not_false] at h; try exact absurd trivial h))
             | ((with_reducible apply go_pre); rfl)
             | (with_reducible apply go_pre_nil)
             | ((with_reducible apply go_suf); rfl)
             | (with_reducible apply go_suf_nil))
           | ((with_reducible (show evG _ _ _ _ _)); first
             | (with_reducible apply go_seq)
             | (with_reducible apply go_region)
             | ((with_reducible apply go_cond_f); rfl; rfl)
             | ((with_reducible apply go_order); kernel_rfl; rfl)
             | (with_reducible apply go_ret)
             | (with_reducible apply go_skipc))
           | (with_reducible apply go_kseq)
           | (with_reducible apply go_ksuf)
           | ((with_reducible apply end_bool); rfl)
    all_goals first | exact absurd trivial (by assumption) | simp
end Go.Pv.Soil

open Go Go.Proofs Go.Pv
set_option maxHeartbeats 2000000
set_option maxRecDepth 100000
set_option linter.unusedSimpArgs false
set_option linter.unusedVariables false
namespace Go.Pv.Soil

/-- The error of a ground and a place. -/
def gpE (g : Ground) (p : Pt) : Int := if groundE g ≠ 0 then groundE g else if ptOK p = false then 2 else 0

theorem asked_gp {g : Ground} {p : Pt} {l : List Int} (h : gpE g p ≠ 0) : askedE g p l = gpE g p := by
  unfold gpE at h ⊢
  unfold askedE
  split
  · rfl
  · rename_i h1
    rw [if_neg h1] at h
    split at h
    · rename_i h2; rw [if_pos (.inl h2), if_pos h2]
    · omega
theorem asked_ok {g : Ground} {p : Pt} {l : List Int} (h : gpE g p = 0) : askedE g p l = if (l.any fun n => !lvOK n) = true then 2 else 0 := by
  unfold gpE at h
  unfold askedE
  split at h
  · omega
  · rename_i h1
    split at h
    · omega
    · rename_i h2
      rw [if_neg h1]
      simp [h2]
theorem gp_ok {g : Ground} {p : Pt} (h : gpE g p = 0) : groundE g = 0 ∧ ptOK p = true := by
  unfold gpE at h
  split at h
  · omega
  · rename_i h1
    split at h
    · omega
    · rename_i h2
      exact ⟨by simpa using h1, by simpa using h2⟩

def encAt2 (x : Int × Int) : List D := [.int .i64 x.1, .int .i64 x.2]

theorem c10 (g : Ground) (p : Pt) (x : Int × Int) : Contract Try.prog 10 [.agg (encGround g), .agg (encPt p), .agg (encAt2 x)] (.ret (.bool true)) := by
  obtain ⟨a, b⟩ := x
  cases hs : slightE g
  · have h19 : Contract Try.prog 19 [.agg (encGround g)] (.ret (.bool false)) := hs ▸ c19 g
    refine contract_of mix Try.func10 rfl rfl (by rw [Try.ntmps10]; exact Nat.le_of_ble_eq_true rfl) ?_; rw [Try.results10, Try.ntmps10]; simp only [argsE, Nat.reduceAdd]
    repeat' first
           | (with_reducible apply go_op)
           | (with_reducible apply go_next)
           | ((with_reducible (show evOp _ _ _ _ _ _)); first
             | (((with_reducible apply go_mv_bool); rfl; rfl))
             | ((with_reducible apply go_as))
             | (((with_reducible apply go_ld_agg); rfl; rfl; rfl; rfl))
             | ((with_reducible (show evOp _ (.call _) _ _ _ _)) ; first | ((with_reducible apply go_fn_bool); rfl; (exact c18); rfl) | ((with_reducible apply go_fn_bool); rfl; (exact h19); rfl))
             | (((with_reducible apply go_not); rfl; rfl))
             | (((with_reducible apply go_bx_agg); rfl; rfl; (exact Nat.le_of_ble_eq_true rfl); rfl; rfl)))
           | ((with_reducible (show evOps _ _ _ _ _ _)); first
             | (with_reducible apply go_nil))
           | ((with_reducible (show evG _ _ _ _ _)); first
             | (with_reducible apply go_seq)
             | (with_reducible apply go_region)
             | ((with_reducible apply go_cond_t); rfl; rfl)
             | ((with_reducible apply go_cond_f); rfl; rfl)
             | (with_reducible apply go_ret)
             | (with_reducible apply go_skipc))
           | (with_reducible apply go_kseq)
           | (with_reducible apply go_kseq_ret)
           | ((with_reducible apply end_bool); rfl)
           | (with_reducible rfl)
  · have h19 : Contract Try.prog 19 [.agg (encGround g)] (.ret (.bool true)) := hs ▸ c19 g
    obtain ⟨hl, hb⟩ := slight_len hs
    have hl' : g.soils.length < 1000000000000 := by omega
    have hb' : g.borings.length < 1000000000000 := by omega
    have h23 := c23 g hl' hb'
    have h45 := c45 g hl' hb' p
    have h43 := c43 g hl' hb' p a
    have h42 := c42 g hl' hb' p a b
    by_cases h0 : gpE g p = 0
    · obtain ⟨h1, h2⟩ := gp_ok h0
      have hg := okG h1
      have e45 : nearRE g p = ((nearE g p : Int), 0) := by simp only [nearRE, asked_ok (l := []) h0]; rfl
      rw [e45] at h45
      rw [h1] at h23
      have h46 : Contract Try.prog 46 [.agg (encPt p)] (.ret (.bool true)) := h2 ▸ c46 p
      have h47 := c47 g hg p h2
      have h49 := c49 g hg p h2 a
      have h51 := c51 g hg p h2 a b
      have h50 := c50 (columnE g p a b) (by
        have hn := near_lt (p := p) hg.n.1
        have := colE_len g.borings[nearE g p] a b g.borings[nearE g p].layers.length
        have := (hg.bor _ hn).len
        simp only [columnE, List.getElem?_eq_getElem hn]; omega)
      cases ha : lvOK a
      · have h48 : Contract Try.prog 48 [.int .i64 a] (.ret (.bool false)) := ha ▸ c48 a
        have e43 : atE g p a = (.empty, 2) := by simp only [atE, asked_ok (l := [a]) h0]; simp [ha]
        have e42 : columnRE g p a b = ([], 2) := by simp only [columnRE, asked_ok (l := [a, b]) h0]; simp [ha]
        rw [e43] at h43
        rw [e42] at h42
        refine contract_of mix Try.func10 rfl rfl (by rw [Try.ntmps10]; exact Nat.le_of_ble_eq_true rfl) ?_; rw [Try.results10, Try.ntmps10]; simp only [argsE, Nat.reduceAdd]
        repeat' first
           | (with_reducible apply go_op)
           | (with_reducible apply go_next)
           | ((with_reducible (show evOp _ _ _ _ _ _)); first
             | ((with_reducible (show evOp _ (.move _) _ _ _ _)) ; first | ((with_reducible apply go_mv_int); rfl; rfl) | ((with_reducible apply go_mv_bool); rfl; rfl) | ((with_reducible apply go_mv_os); rfl; rfl) | ((with_reducible apply go_mv_tup); rfl; rfl) | ((with_reducible apply go_mv_str); rfl; rfl))
             | ((with_reducible apply go_as))
             | ((with_reducible (show evOp _ (.load _ _) _ _ _ _)) ; first | ((with_reducible apply go_ld_agg); rfl; rfl; rfl; rfl) | ((with_reducible apply go_load_own); rfl; rfl; rfl; rfl))
             | (((with_reducible apply go_index_arr); rfl; rfl; rfl; rfl; omega))
             | ((with_reducible (show evOp _ (.binOp _ _ _ _ _) _ _ _ _)) ; first | ((with_reducible apply go_cmp); rfl; rfl; rfl; rfl) | ((with_reducible apply go_bin); rfl; rfl))
             | ((with_reducible (show evOp _ (.call _) _ _ _ _)) ; first | ((with_reducible apply go_len_own); rfl; rfl; rfl) | ((with_reducible apply go_fn_bool); rfl; (exact c18); rfl) | ((with_reducible apply go_fn_bool); rfl; (exact h19); rfl) | ((with_reducible apply go_fn_plain); rfl; (exact h45); rfl; (exact Nat.le_of_ble_eq_true rfl); rfl) | ((with_reducible apply go_fn_plain); rfl; (exact h43); rfl; (exact Nat.le_of_ble_eq_true rfl); rfl) | ((with_reducible apply go_fn_fr2); rfl; (exact h42); (exact scalPart); rfl; rfl) | ((with_reducible apply go_fn_int); rfl; (exact h23); rfl) | ((with_reducible apply go_fn_bool); rfl; (exact h46); rfl) | ((with_reducible apply go_fn_int); rfl; (exact h47); rfl) | ((with_reducible apply go_fn_bool); rfl; (exact h48); rfl))
             | (((with_reducible apply go_not); rfl; rfl))
             | (((with_reducible apply go_extract); rfl; rfl))
             | (((with_reducible apply go_pick); rfl; rfl; rfl))
             | (((with_reducible apply go_bx_agg); rfl; rfl; (exact Nat.le_of_ble_eq_true rfl); rfl; rfl)))
           | ((with_reducible (show evOps _ _ _ _ _ _)); first
             | (with_reducible apply go_nil)
             | ((with_reducible apply go_run); rfl; rfl))
           | ((with_reducible (show evG _ _ _ _ _)); first
             | (with_reducible apply go_seq)
             | (with_reducible apply go_region)
             | ((with_reducible apply go_cond_t); rfl; rfl)
             | ((with_reducible apply go_cond_f); rfl; rfl)
             | (((with_reducible apply go_cond); rfl) <;> (intro h; simp only [h]; try simp only [decide_eq_true_eq, decide_eq_false_iff_not, Bool.not_eq_true', Bool.not_eq_false', Bool.not_true, Bool.not_false] at h; try exact absurd trivial h))
             | (with_reducible apply go_ret)
             | (with_reducible apply go_skipc))
           | (with_reducible apply go_kseq)
           | (with_reducible apply go_kseq_ret)
           | ((with_reducible apply end_bool); rfl)
        all_goals simp
      · have h48 : Contract Try.prog 48 [.int .i64 a] (.ret (.bool true)) := ha ▸ c48 a
        have e43 : atE g p a = (soilAt g p a, 0) := by simp only [atE, asked_ok (l := [a]) h0]; simp [ha]
        rw [e43] at h43
        cases hbb : lvOK b
        · have h48' : Contract Try.prog 48 [.int .i64 b] (.ret (.bool false)) := hbb ▸ c48 b
          have e42 : columnRE g p a b = ([], 2) := by simp only [columnRE, asked_ok (l := [a, b]) h0]; simp [hbb]
          rw [e42] at h42
          refine contract_of mix Try.func10 rfl rfl (by rw [Try.ntmps10]; exact Nat.le_of_ble_eq_true rfl) ?_; rw [Try.results10, Try.ntmps10]; simp only [argsE, Nat.reduceAdd]
          repeat' first
           | (with_reducible apply go_op)
           | (with_reducible apply go_next)
           | ((with_reducible (show evOp _ _ _ _ _ _)); first
             | ((with_reducible (show evOp _ (.move _) _ _ _ _)) ; first | ((with_reducible apply go_mv_int); rfl; rfl) | ((with_reducible apply go_mv_bool); rfl; rfl) | ((with_reducible apply go_mv_os); rfl; rfl) | ((with_reducible apply go_mv_tup); rfl; rfl) | ((with_reducible apply go_mv_str); rfl; rfl))
             | ((with_reducible apply go_as))
             | ((with_reducible (show evOp _ (.load _ _) _ _ _ _)) ; first | ((with_reducible apply go_ld_agg); rfl; rfl; rfl; rfl) | ((with_reducible apply go_load_own); rfl; rfl; rfl; rfl))
             | (((with_reducible apply go_index_arr); rfl; rfl; rfl; rfl; omega))
             | ((with_reducible (show evOp _ (.binOp _ _ _ _ _) _ _ _ _)) ; first | ((with_reducible apply go_cmp); rfl; rfl; rfl; rfl) | ((with_reducible apply go_bin); rfl; rfl))
             | ((with_reducible (show evOp _ (.call _) _ _ _ _)) ; first | ((with_reducible apply go_len_own); rfl; rfl; rfl) | ((with_reducible apply go_fn_bool); rfl; (exact c18); rfl) | ((with_reducible apply go_fn_bool); rfl; (exact h19); rfl) | ((with_reducible apply go_fn_plain); rfl; (exact h45); rfl; (exact Nat.le_of_ble_eq_true rfl); rfl) | ((with_reducible apply go_fn_plain); rfl; (exact h43); rfl; (exact Nat.le_of_ble_eq_true rfl); rfl) | ((with_reducible apply go_fn_fr2); rfl; (exact h42); (exact scalPart); rfl; rfl) | ((with_reducible apply go_fn_int); rfl; (exact h23); rfl) | ((with_reducible apply go_fn_bool); rfl; (exact h46); rfl) | ((with_reducible apply go_fn_int); rfl; (exact h47); rfl) | ((with_reducible apply go_fn_bool); rfl; (exact h48); rfl) | ((with_reducible apply go_fn_plain); rfl; (exact h49); rfl; (exact Nat.le_of_ble_eq_true rfl); rfl) | ((with_reducible apply go_fn_bool); rfl; (exact h48'); rfl))
             | (((with_reducible apply go_not); rfl; rfl))
             | (((with_reducible apply go_extract); rfl; rfl))
             | (((with_reducible apply go_pick); rfl; rfl; rfl))
             | (((with_reducible apply go_bx_agg); rfl; rfl; (exact Nat.le_of_ble_eq_true rfl); rfl; rfl)))
           | ((with_reducible (show evOps _ _ _ _ _ _)); first
             | (with_reducible apply go_nil)
             | ((with_reducible apply go_run); rfl; rfl))
           | ((with_reducible (show evG _ _ _ _ _)); first
             | (with_reducible apply go_seq)
             | (with_reducible apply go_region)
             | ((with_reducible apply go_cond_t); rfl; rfl)
             | ((with_reducible apply go_cond_f); rfl; rfl)
             | (((with_reducible apply go_cond); rfl) <;> (intro h; simp only [h]; try simp only [decide_eq_true_eq, decide_eq_false_iff_not, Bool.not_eq_true', Bool.not_eq_false', Bool.not_true, Bool.not_false] at h; try exact absurd trivial h))
             | (with_reducible apply go_ret)
             | (with_reducible apply go_skipc))
           | (with_reducible apply go_kseq)
           | (with_reducible apply go_kseq_ret)
           | ((with_reducible apply end_bool); rfl)
          all_goals simp
        · have h48' : Contract Try.prog 48 [.int .i64 b] (.ret (.bool true)) := hbb ▸ c48 b
          by_cases hab : a < b
          · have e42 : columnRE g p a b = ([], 9) := by simp only [columnRE, asked_ok (l := [a, b]) h0]; simp [ha, hbb, hab]
            rw [e42] at h42
            refine contract_of mix Try.func10 rfl rfl (by rw [Try.ntmps10]; exact Nat.le_of_ble_eq_true rfl) ?_; rw [Try.results10, Try.ntmps10]; simp only [argsE, Nat.reduceAdd]
            repeat' first
           | (with_reducible apply go_op)
           | (with_reducible apply go_next)
           | ((with_reducible (show evOp _ _ _ _ _ _)); first
             | ((with_reducible (show evOp _ (.move _) _ _ _ _)) ; first | ((with_reducible apply go_mv_int); rfl; rfl) | ((with_reducible apply go_mv_bool); rfl; rfl) | ((with_reducible apply go_mv_os); rfl; rfl) | ((with_reducible apply go_mv_tup); rfl; rfl) | ((with_reducible apply go_mv_str); rfl; rfl))
             | ((with_reducible apply go_as))
             | ((with_reducible (show evOp _ (.load _ _) _ _ _ _)) ; first | ((with_reducible apply go_ld_agg); rfl; rfl; rfl; rfl) | ((with_reducible apply go_load_own); rfl; rfl; rfl; rfl))
             | (((with_reducible apply go_index_arr); rfl; rfl; rfl; rfl; omega))
             | ((with_reducible (show evOp _ (.binOp _ _ _ _ _) _ _ _ _)) ; first | ((with_reducible apply go_cmp); rfl; rfl; rfl; rfl) | ((with_reducible apply go_bin); rfl; rfl))
             | ((with_reducible (show evOp _ (.call _) _ _ _ _)) ; first | ((with_reducible apply go_len_own); rfl; rfl; rfl) | ((with_reducible apply go_fn_bool); rfl; (exact c18); rfl) | ((with_reducible apply go_fn_bool); rfl; (exact h19); rfl) | ((with_reducible apply go_fn_plain); rfl; (exact h45); rfl; (exact Nat.le_of_ble_eq_true rfl); rfl) | ((with_reducible apply go_fn_plain); rfl; (exact h43); rfl; (exact Nat.le_of_ble_eq_true rfl); rfl) | ((with_reducible apply go_fn_fr2); rfl; (exact h42); (exact scalPart); rfl; rfl) | ((with_reducible apply go_fn_int); rfl; (exact h23); rfl) | ((with_reducible apply go_fn_bool); rfl; (exact h46); rfl) | ((with_reducible apply go_fn_int); rfl; (exact h47); rfl) | ((with_reducible apply go_fn_bool); rfl; (exact h48); rfl) | ((with_reducible apply go_fn_plain); rfl; (exact h49); rfl; (exact Nat.le_of_ble_eq_true rfl); rfl) | ((with_reducible apply go_fn_bool); rfl; (exact h48'); rfl))
             | (((with_reducible apply go_not); rfl; rfl))
             | (((with_reducible apply go_extract); rfl; rfl))
             | (((with_reducible apply go_pick); rfl; rfl; rfl))
             | (((with_reducible apply go_bx_agg); rfl; rfl; (exact Nat.le_of_ble_eq_true rfl); rfl; rfl)))
           | ((with_reducible (show evOps _ _ _ _ _ _)); first
             | (with_reducible apply go_nil)
             | ((with_reducible apply go_run); rfl; rfl)
             | ((with_reducible apply go_pass); rfl; rfl; rfl))
           | ((with_reducible (show evG _ _ _ _ _)); first
             | (with_reducible apply go_seq)
             | (with_reducible apply go_region)
             | ((with_reducible apply go_cond_f); rfl; rfl)
             | (((with_reducible apply go_cond); rfl) <;> (intro h; simp only [h]; try simp only [decide_eq_true_eq, decide_eq_false_iff_not, Bool.not_eq_true', Bool.not_eq_false', Bool.not_true, Bool.not_false] at h; try exact absurd trivial h))
             | (with_reducible apply go_ret)
             | (with_reducible apply go_skipc))
           | (with_reducible apply go_kseq)
           | (with_reducible apply go_kseq_ret)
           | ((with_reducible apply end_bool); rfl)
            all_goals first | (exact absurd hab (by assumption)) | simp
          · have e42 : columnRE g p a b = (columnE g p a b, 0) := by simp only [columnRE, asked_ok (l := [a, b]) h0]; simp [ha, hbb, hab]
            rw [e42] at h42
            refine contract_of mix Try.func10 rfl rfl (by rw [Try.ntmps10]; exact Nat.le_of_ble_eq_true rfl) ?_; rw [Try.results10, Try.ntmps10]; simp only [argsE, Nat.reduceAdd]
            repeat' first
           | (with_reducible apply go_op)
           | (with_reducible apply go_next)
           | ((with_reducible (show evOp _ _ _ _ _ _)); first
             | ((with_reducible (show evOp _ (.move _) _ _ _ _)) ; first | ((with_reducible apply go_mv_int); rfl; rfl) | ((with_reducible apply go_mv_bool); rfl; rfl) | ((with_reducible apply go_mv_os); rfl; rfl) | ((with_reducible apply go_mv_tup); rfl; rfl) | ((with_reducible apply go_mv_str); rfl; rfl))
             | ((with_reducible apply go_as))
             | ((with_reducible (show evOp _ (.load _ _) _ _ _ _)) ; first | ((with_reducible apply go_ld_agg); rfl; rfl; rfl; rfl) | ((with_reducible apply go_load_own); rfl; rfl; rfl; rfl))
             | (((with_reducible apply go_index_arr); rfl; rfl; rfl; rfl; omega))
             | ((with_reducible (show evOp _ (.binOp _ _ _ _ _) _ _ _ _)) ; first | ((with_reducible apply go_cmp); rfl; rfl; rfl; rfl) | ((with_reducible apply go_bin); rfl; rfl))
             | ((with_reducible (show evOp _ (.call _) _ _ _ _)) ; first | ((with_reducible apply go_fn_bool); rfl; (exact c18); rfl) | ((with_reducible apply go_fn_bool); rfl; (exact h19); rfl) | ((with_reducible apply go_fn_plain); rfl; (exact h45); rfl; (exact Nat.le_of_ble_eq_true rfl); rfl) | ((with_reducible apply go_fn_plain); rfl; (exact h43); rfl; (exact Nat.le_of_ble_eq_true rfl); rfl) | ((with_reducible apply go_fn_fr2); rfl; (exact h42); (exact scalPart); rfl; rfl) | ((with_reducible apply go_fn_int); rfl; (exact h23); rfl) | ((with_reducible apply go_fn_bool); rfl; (exact h46); rfl) | ((with_reducible apply go_fn_int); rfl; (exact h47); rfl) | ((with_reducible apply go_fn_bool); rfl; (exact h48); rfl) | ((with_reducible apply go_fn_plain); rfl; (exact h49); rfl; (exact Nat.le_of_ble_eq_true rfl); rfl) | ((with_reducible apply go_fn_bool); rfl; (exact h48'); rfl) | ((with_reducible apply go_fn_fr); rfl; (exact h51); (exact scalPart); rfl))
             | (((with_reducible apply go_not); rfl; rfl))
             | (((with_reducible apply go_extract); rfl; rfl))
             | (((with_reducible apply go_pick); rfl; rfl; rfl))
             | (((with_reducible apply go_bx_agg); rfl; rfl; (exact Nat.le_of_ble_eq_true rfl); rfl; rfl)))
           | ((with_reducible (show evOps _ _ _ _ _ _)); first
             | (with_reducible apply go_nil)
             | ((with_reducible apply go_run); rfl; rfl)
             | ((with_reducible apply go_pass); rfl; rfl; rfl))
           | ((with_reducible (show evG _ _ _ _ _)); first
             | (with_reducible apply go_seq)
             | (with_reducible apply go_region)
             | ((with_reducible apply go_cond_f); rfl; rfl)
             | (((with_reducible apply go_cond); rfl) <;> (intro h; simp only [h]; try simp only [decide_eq_true_eq, decide_eq_false_iff_not, Bool.not_eq_true', Bool.not_eq_false', Bool.not_true, Bool.not_false] at h; try exact absurd trivial h))
             | (with_reducible apply go_ret)
             | (with_reducible apply go_skipc))
           | (with_reducible apply go_kseq)
           | (with_reducible apply go_kseq_ret)
           | ((with_reducible apply end_bool); rfl)
            all_goals first | (exact absurd (by assumption) hab) | skip
            refine go_fn_bool (args' := [.sl ((columnE g p a b).map encPart), .sl ((columnE g p a b).map encPart)]) (pur2_own rfl rfl rfl rfl (by simp) (by simp)) h50 rfl ?_
            repeat' first
           | (with_reducible apply go_op)
           | (with_reducible apply go_next)
           | ((with_reducible (show evOp _ _ _ _ _ _)); first
             | (((with_reducible apply go_mv_bool); rfl; rfl))
             | ((with_reducible apply go_as))
             | (((with_reducible apply go_pick); rfl; rfl; rfl)))
           | ((with_reducible (show evOps _ _ _ _ _ _)); first
             | (with_reducible apply go_nil))
           | ((with_reducible (show evG _ _ _ _ _)); first
             | (with_reducible apply go_ret))
           | (with_reducible apply go_kseq)
           | ((with_reducible apply end_bool); rfl)
           | (with_reducible rfl)
    · have e45 : nearRE g p = (0, gpE g p) := by simp only [nearRE, asked_gp h0]; rw [if_pos h0]
      have e43 : atE g p a = (.empty, gpE g p) := by simp only [atE, asked_gp h0]; rw [if_pos h0]
      have e42 : columnRE g p a b = ([], gpE g p) := by simp only [columnRE, asked_gp h0]; rw [if_pos h0]
      rw [e45] at h45
      rw [e43] at h43
      rw [e42] at h42
      by_cases hg : groundE g = 0
      · have hp : ptOK p = false := by
          unfold gpE at h0
          rw [if_neg (by simp [hg])] at h0
          split at h0
          · assumption
          · omega
        have e0 : gpE g p = 2 := by unfold gpE; rw [if_neg (by simp [hg]), if_pos hp]
        rw [e0] at h45 h43 h42
        rw [hg] at h23
        have h46 : Contract Try.prog 46 [.agg (encPt p)] (.ret (.bool false)) := hp ▸ c46 p
        refine contract_of mix Try.func10 rfl rfl (by rw [Try.ntmps10]; exact Nat.le_of_ble_eq_true rfl) ?_; rw [Try.results10, Try.ntmps10]; simp only [argsE, Nat.reduceAdd]
        repeat' first
           | (with_reducible apply go_op)
           | (with_reducible apply go_next)
           | ((with_reducible (show evOp _ _ _ _ _ _)); first
             | ((with_reducible (show evOp _ (.move _) _ _ _ _)) ; first | ((with_reducible apply go_mv_int); rfl; rfl) | ((with_reducible apply go_mv_bool); rfl; rfl) | ((with_reducible apply go_mv_os); rfl; rfl) | ((with_reducible apply go_mv_tup); rfl; rfl) | ((with_reducible apply go_mv_str); rfl; rfl))
             | ((with_reducible apply go_as))
             | ((with_reducible (show evOp _ (.load _ _) _ _ _ _)) ; first | ((with_reducible apply go_ld_agg); rfl; rfl; rfl; rfl) | ((with_reducible apply go_load_own); rfl; rfl; rfl; rfl))
             | (((with_reducible apply go_index_arr); rfl; rfl; rfl; rfl; omega))
             | ((with_reducible (show evOp _ (.binOp _ _ _ _ _) _ _ _ _)) ; first | ((with_reducible apply go_cmp); rfl; rfl; rfl; rfl) | ((with_reducible apply go_bin); rfl; rfl))
             | ((with_reducible (show evOp _ (.call _) _ _ _ _)) ; first | ((with_reducible apply go_len_own); rfl; rfl; rfl) | ((with_reducible apply go_fn_bool); rfl; (exact c18); rfl) | ((with_reducible apply go_fn_bool); rfl; (exact h19); rfl) | ((with_reducible apply go_fn_plain); rfl; (exact h45); rfl; (exact Nat.le_of_ble_eq_true rfl); rfl) | ((with_reducible apply go_fn_plain); rfl; (exact h43); rfl; (exact Nat.le_of_ble_eq_true rfl); rfl) | ((with_reducible apply go_fn_fr2); rfl; (exact h42); (exact scalPart); rfl; rfl) | ((with_reducible apply go_fn_int); rfl; (exact h23); rfl) | ((with_reducible apply go_fn_bool); rfl; (exact h46); rfl))
             | (((with_reducible apply go_not); rfl; rfl))
             | (((with_reducible apply go_extract); rfl; rfl))
             | (((with_reducible apply go_pick); rfl; rfl; rfl))
             | (((with_reducible apply go_bx_agg); rfl; rfl; (exact Nat.le_of_ble_eq_true rfl); rfl; rfl)))
           | ((with_reducible (show evOps _ _ _ _ _ _)); first
             | (with_reducible apply go_nil)
             | ((with_reducible apply go_run); rfl; rfl))
           | ((with_reducible (show evG _ _ _ _ _)); first
             | (with_reducible apply go_seq)
             | (with_reducible apply go_region)
             | ((with_reducible apply go_cond_t); rfl; rfl)
             | ((with_reducible apply go_cond_f); rfl; rfl)
             | (with_reducible apply go_ret)
             | (with_reducible apply go_skipc))
           | (with_reducible apply go_kseq)
           | (with_reducible apply go_kseq_ret)
           | ((with_reducible apply end_bool); rfl)
        all_goals simp
      · have e0 : gpE g p = groundE g := by unfold gpE; rw [if_pos hg]
        rw [e0] at h45 h43 h42
        refine contract_of mix Try.func10 rfl rfl (by rw [Try.ntmps10]; exact Nat.le_of_ble_eq_true rfl) ?_; rw [Try.results10, Try.ntmps10]; simp only [argsE, Nat.reduceAdd]
        repeat' first
           | (with_reducible apply go_op)
           | (with_reducible apply go_next)
           | ((with_reducible (show evOp _ _ _ _ _ _)); first
             | ((with_reducible (show evOp _ (.move _) _ _ _ _)) ; first | ((with_reducible apply go_mv_int); rfl; rfl) | ((with_reducible apply go_mv_bool); rfl; rfl) | ((with_reducible apply go_mv_os); rfl; rfl) | ((with_reducible apply go_mv_tup); rfl; rfl) | ((with_reducible apply go_mv_str); rfl; rfl))
             | ((with_reducible apply go_as))
             | ((with_reducible (show evOp _ (.load _ _) _ _ _ _)) ; first | ((with_reducible apply go_ld_agg); rfl; rfl; rfl; rfl) | ((with_reducible apply go_load_own); rfl; rfl; rfl; rfl))
             | (((with_reducible apply go_index_arr); rfl; rfl; rfl; rfl; omega))
             | ((with_reducible (show evOp _ (.binOp _ _ _ _ _) _ _ _ _)) ; first | ((with_reducible apply go_cmp); rfl; rfl; rfl; rfl) | ((with_reducible apply go_bin); rfl; rfl))
             | ((with_reducible (show evOp _ (.call _) _ _ _ _)) ; first | ((with_reducible apply go_len_own); rfl; rfl; rfl) | ((with_reducible apply go_fn_bool); rfl; (exact c18); rfl) | ((with_reducible apply go_fn_bool); rfl; (exact h19); rfl) | ((with_reducible apply go_fn_plain); rfl; (exact h45); rfl; (exact Nat.le_of_ble_eq_true rfl); rfl) | ((with_reducible apply go_fn_plain); rfl; (exact h43); rfl; (exact Nat.le_of_ble_eq_true rfl); rfl) | ((with_reducible apply go_fn_fr2); rfl; (exact h42); (exact scalPart); rfl; rfl) | ((with_reducible apply go_fn_int); rfl; (exact h23); rfl))
             | (((with_reducible apply go_not); rfl; rfl))
             | (((with_reducible apply go_extract); rfl; rfl))
             | (((with_reducible apply go_pick); rfl; rfl; rfl))
             | (((with_reducible apply go_bx_agg); rfl; rfl; (exact Nat.le_of_ble_eq_true rfl); rfl; rfl)))
           | ((with_reducible (show evOps _ _ _ _ _ _)); first
             | (with_reducible apply go_nil)
             | ((with_reducible apply go_run); rfl; rfl)
             | ((with_reducible apply go_pass); rfl; rfl; rfl)
             | (((with_reducible apply go_guard); rfl) <;> (intro h; simp only [h, Bool.not_true, Bool.not_false]; (try with_reducible (refine ⟨rfl, ?_⟩)); try simp only [decide_eq_true_eq, decide_eq_false_iff_not, Bool.not_eq_true', Bool.not_eq_false', Bool.not_true, Bool.not_false] at h; try exact absurd trivial h)))
           | ((with_reducible (show evG _ _ _ _ _)); first
             | (with_reducible apply go_seq)
             | (with_reducible apply go_region)
             | ((with_reducible apply go_cond_t); rfl; rfl)
             | ((with_reducible apply go_cond_f); rfl; rfl)
             | (((with_reducible apply go_cond); rfl) <;> (intro h; simp only [h]; try simp only [decide_eq_true_eq, decide_eq_false_iff_not, Bool.not_eq_true', Bool.not_eq_false', Bool.not_true, Bool.not_false] at h; try exact absurd trivial h))
             | (with_reducible apply go_ret)
             | (with_reducible apply go_skipc))
           | (with_reducible apply go_kseq)
           | (with_reducible apply go_kseq_ret)
           | ((with_reducible apply end_bool); rfl)
        all_goals first | exact absurd ‹groundE g = 0› hg | simp
end Go.Pv.Soil

open Go Go.Proofs Go.Pv
set_option maxHeartbeats 2000000
set_option maxRecDepth 100000
set_option linter.unusedSimpArgs false
set_option linter.unusedVariables false
namespace Go.Pv.Soil

theorem tops {s : List Soil} {b : Boring} (hb : OkBoring s b) {i : Nat} : ∀ {j : Nat} (h : i < j) (hj : j < b.layers.length), b.layers[j].top < (b.layers[i]'(by omega)).top
  | j + 1, h, hj => by
    have h1 := (hb.lay (j + 1) hj).2.2 (by omega)
    by_cases he : i = j
    · subst he; exact h1
    · exact Int.lt_trans h1 (tops hb (j := j) (by omega) (by omega))

/-- The level behind n parts. -/
def lev (f : Int) (l : List Part) : Nat → Int
  | 0 => f
  | i + 1 => match l[i]? with
    | some x => x.bottom
    | none => 0
theorem lev_app {f : Int} {l : List Part} {x : Part} : ∀ {i : Nat}, i ≤ l.length → lev f (l ++ [x]) i = lev f l i
  | 0, _ => rfl
  | i + 1, h => by
    show (match (l ++ [x])[i]? with | some x => x.bottom | none => 0) = _
    rw [List.getElem?_append_left (by omega)]
    rfl
theorem lev_next {f : Int} {l : List Part} {i : Nat} (h : i < l.length) : lev f l (i + 1) = l[i].bottom := by
  show (match l[i]? with | some x => x.bottom | none => 0) = _
  rw [List.getElem?_eq_getElem h]

structure Good (b : Boring) (f t : Int) (l : List Part) (e : Int) : Prop where
  chain : ∀ i (h : i < l.length), l[i].top = lev f l i ∧ l[i].bottom < l[i].top
  last : lev f l l.length = e
  all : ∀ i (h : i < l.length), t ≤ l[i].bottom ∧ l[i].top ≤ f ∧ ∃ k, k < b.layers.length ∧ l[i] = partAt b f t k

def levE (b : Boring) (f t : Int) (n : Nat) : Int := if n = 0 then f else if h : n < b.layers.length then max t (min f b.layers[n].top) else t

theorem part_bds {b : Boring} {f t : Int} {n : Nat} : t ≤ (partAt b f t n).bottom ∧ (partAt b f t n).top ≤ f := by
  simp only [partAt]
  constructor <;> split <;> omega

theorem good_col {s : List Soil} {b : Boring} (hb : OkBoring s b) {f t : Int} (htf : t ≤ f) : ∀ n, n ≤ b.layers.length → Good b f t (colE b f t n) (levE b f t n)
  | 0, _ => ⟨fun i h => absurd h (Nat.not_lt_zero _), rfl, fun i h => absurd h (Nat.not_lt_zero _)⟩
  | n + 1, hn => by
    have ih := good_col hb htf n (by omega)
    have hlt : n < b.layers.length := hn
    have e1 := part_top (f := f) (t := t) hlt
    have e2 := part_bot (b := b) (f := f) (t := t) (i := n)
    have hbd := part_bds (b := b) (f := f) (t := t) (n := n)
    have ht : ∀ h : n + 1 < b.layers.length, b.layers[n + 1].top < b.layers[n].top := fun h => tops hb (by omega) h
    have hE : levE b f t (n + 1) = if h : n + 1 < b.layers.length then max t (min f b.layers[n + 1].top) else t := by
      unfold levE; rw [if_neg (by omega)]
    have hE0 : levE b f t n = if n = 0 then f else max t (min f b.layers[n].top) := by
      unfold levE; rw [dif_pos hlt]
    simp only [colE]
    split
    · rename_i h
      have htop : (partAt b f t n).top = levE b f t n := by
        rw [hE0, e1]
        by_cases h0 : n = 0
        · rw [if_pos h0, if_neg (by omega)]
        · rw [if_neg h0, if_pos (by omega)]
          rw [e1, if_pos (by omega)] at h
          omega
      have hbot : (partAt b f t n).bottom = levE b f t (n + 1) := by
        rw [hE]
        by_cases h1 : n + 1 < b.layers.length
        · rw [e2, dif_pos h1, dif_pos h1]
          rw [e2, dif_pos h1] at h
          omega
        · rw [e2, dif_neg h1, dif_neg h1]
      refine ⟨fun i hi => ?_, ?_, fun i hi => ?_⟩
      · rw [List.length_append, List.length_singleton] at hi
        rw [lev_app (by omega)]
        by_cases he : i = (colE b f t n).length
        · subst he
          simp only [List.getElem_concat_length]
          exact ⟨by rw [htop, ih.last], h⟩
        · rw [List.getElem_append_left (by omega)]
          exact ih.chain i (by omega)
      · rw [List.length_append, List.length_singleton, lev_next (by simp)]
        simp only [List.getElem_concat_length]
        exact hbot
      · rw [List.length_append, List.length_singleton] at hi
        by_cases he : i = (colE b f t n).length
        · subst he
          simp only [List.getElem_concat_length]
          exact ⟨hbd.1, hbd.2, n, hlt, rfl⟩
        · rw [List.getElem_append_left (by omega)]
          exact ih.all i (by omega)
    · rename_i h
      have hsame : levE b f t n = levE b f t (n + 1) := by
        rw [hE, hE0]
        by_cases h1 : n + 1 < b.layers.length
        · have := ht h1
          rw [dif_pos h1]
          rw [e2, dif_pos h1, e1] at h
          by_cases h0 : n = 0
          · rw [if_neg (by omega)] at h
            rw [if_pos h0]; omega
          · rw [if_pos (by omega)] at h
            rw [if_neg h0]; omega
        · rw [dif_neg h1]
          rw [e2, dif_neg h1, e1] at h
          by_cases h0 : n = 0
          · rw [if_neg (by omega)] at h
            rw [if_pos h0]; omega
          · rw [if_pos (by omega)] at h
            rw [if_neg h0]; omega
      rw [← hsame]
      exact ih

theorem part_layer {s : List Soil} {b : Boring} (hb : OkBoring s b) {f t lv : Int} {k : Nat} (hk : k < b.layers.length) (h1 : (partAt b f t k).bottom < lv) (h2 : lv ≤ (partAt b f t k).top) : layerE b lv = k := by
  rw [part_bot] at h1
  rw [part_top hk] at h2
  have hall : ∀ j, k < j → j < b.layers.length → topAt b lv j = false := by
    intro j hj hl
    rw [topAt_at hl]
    have h3 : k + 1 < b.layers.length := by omega
    rw [dif_pos h3] at h1
    by_cases he : j = k + 1
    · subst he; simp; omega
    · have := tops hb (i := k + 1) (j := j) (by omega) hl
      simp; omega
  by_cases h0 : k = 0
  · subst h0
    exact lastE_zero fun j h h' => hall j h h'
  · rw [if_pos (by omega)] at h2
    exact lastE_at hk (by rw [topAt_at hk]; simp; omega) hall

theorem levE_end {s : List Soil} {b : Boring} (hb : OkBoring s b) {f t : Int} : levE b f t b.layers.length = t := by
  have := hb.len
  unfold levE
  rw [if_neg (by omega), dif_neg (by omega)]

theorem col_good {g : Ground} (hg : OkG g) {p : Pt} {f t : Int} (htf : t ≤ f) :
    (∀ i (h : i < (columnE g p f t).length), (columnE g p f t)[i].top = lev f (columnE g p f t) i ∧ (columnE g p f t)[i].bottom < (columnE g p f t)[i].top ∧ t ≤ (columnE g p f t)[i].bottom ∧ (columnE g p f t)[i].top ≤ f ∧ ∀ lv, (columnE g p f t)[i].bottom < lv → lv ≤ (columnE g p f t)[i].top → soilAt g p lv = (columnE g p f t)[i].soil) ∧ lev f (columnE g p f t) (columnE g p f t).length = t := by
  have hn := near_lt (p := p) hg.n.1
  have hb := hg.bor _ hn
  have e : columnE g p f t = colE g.borings[nearE g p] f t g.borings[nearE g p].layers.length := by
    simp only [columnE, List.getElem?_eq_getElem hn]
  rw [e]
  have hG := good_col hb htf g.borings[nearE g p].layers.length (Nat.le_refl _)
  refine ⟨fun i h => ?_, by rw [hG.last, levE_end hb]⟩
  obtain ⟨h1, h2⟩ := hG.chain i h
  obtain ⟨h3, h4, k, hk, hx⟩ := hG.all i h
  refine ⟨h1, h2, h3, h4, fun lv h5 h6 => ?_⟩
  rw [hx] at h5 h6 ⊢
  have hl := part_layer hb hk h5 h6
  simp only [soilAt, List.getElem?_eq_getElem hn, hl, List.getElem?_eq_getElem hk, part_soil hk]

theorem tmod_rng {n m : Int} (hm : 0 < m) : n % m = n.tmod m % m ∧ -m < n.tmod m ∧ n.tmod m < m := by
  refine ⟨?_, ?_, ?_⟩
  · conv => lhs; rw [← Int.tmod_add_mul_tdiv n m]
    rw [Int.add_mul_emod_self_left]
  · have := Int.lt_tmod_of_pos n hm; omega
  · exact Int.tmod_lt_of_pos n hm

theorem c44 (n m : Int) (hm : 0 < m ∧ m ≤ 4611686018427387904) : Contract Try.prog 44 [.int .i64 n, .int .i64 m] (.ret (.int .i64 (n % m))) := by
  obtain ⟨h1, h2, h3⟩ := tmod_rng (n := n) hm.1
  refine contract_of mix Try.func44 rfl rfl (by rw [Try.ntmps44]; exact Nat.le_of_ble_eq_true rfl) ?_; rw [Try.results44, Try.ntmps44]; simp only [argsE, Nat.reduceAdd]
  repeat' first
           | (with_reducible apply go_op)
           | (with_reducible apply go_next)
           | ((with_reducible (show evOp _ _ _ _ _ _)); first
             | (((with_reducible apply go_mv_int); rfl; rfl))
             | ((with_reducible apply go_as))
             | ((with_reducible (show evOp _ (.binOp _ _ _ _ _) _ _ _ _)) ; first | ((with_reducible apply go_cmp); rfl; rfl; rfl; rfl) | ((with_reducible apply go_add); rfl; rfl; rfl; omega) | ((with_reducible apply go_rem); rfl; rfl; rfl; omega)))
           | ((with_reducible (show evOps _ _ _ _ _ _)); first
             | (with_reducible apply go_nil))
           | ((with_reducible (show evG _ _ _ _ _)); first
             | (with_reducible apply go_seq)
             | (with_reducible apply go_region)
             | (((with_reducible apply go_cond); rfl) <;> (intro h; simp only [h]; try simp only [decide_eq_true_eq, decide_eq_false_iff_not, Bool.not_eq_true', Bool.not_eq_false', Bool.not_true, Bool.not_false] at h; try exact absurd trivial h))
             | (with_reducible apply go_ret)
             | (with_reducible apply go_skipc))
           | (with_reducible apply go_kseq)
           | ((with_reducible apply end_int); rfl)
  · first | rw [wrap64 (by omega)] | skip
    rw [h1, ← Int.add_emod_right (n.tmod m) m, Int.emod_eq_of_lt (by omega) (by omega)]
  · rw [h1, Int.emod_eq_of_lt (by omega) (by omega)]

def encAt3 (x : Int × Int × Int) : List D := [.int .i64 x.1, .int .i64 x.2.1, .int .i64 x.2.2]
theorem lv_between {a b c : Int} (ha : lvOK a = true) (hb : lvOK b = true) (h : b ≤ c ∧ c ≤ a) : lvOK c = true := by
  simp only [lvOK, decide_eq_true_eq, Bool.and_eq_true] at ha hb ⊢
  omega
theorem lv_bds {a : Int} (ha : lvOK a = true) : -1000000 ≤ a ∧ a ≤ 1000000 := by
  simp only [lvOK, decide_eq_true_eq, Bool.and_eq_true] at ha
  omega

theorem c9 (g : Ground) (p : Pt) (x : Int × Int × Int) (hx : I64 x.2.2) : Contract Try.prog 9 [.agg (encGround g), .agg (encPt p), .agg (encAt3 x)] (.ret (.bool true)) := by
  obtain ⟨a, b, c⟩ := x
  cases hs : slightE g
  · have h19 : Contract Try.prog 19 [.agg (encGround g)] (.ret (.bool false)) := hs ▸ c19 g
    refine contract_of mix Try.func9 rfl rfl (by rw [Try.ntmps9]; exact Nat.le_of_ble_eq_true rfl) ?_; rw [Try.results9, Try.ntmps9]; simp only [argsE, Nat.reduceAdd]
    repeat' first
           | (with_reducible apply go_op)
           | (with_reducible apply go_next)
           | ((with_reducible (show evOp _ _ _ _ _ _)); first
             | (((with_reducible apply go_mv_bool); rfl; rfl))
             | ((with_reducible apply go_as))
             | (((with_reducible apply go_ld_agg); rfl; rfl; rfl; rfl))
             | ((with_reducible (show evOp _ (.call _) _ _ _ _)) ; first | ((with_reducible apply go_fn_bool); rfl; (exact c18); rfl) | ((with_reducible apply go_fn_bool); rfl; (exact h19); rfl))
             | (((with_reducible apply go_not); rfl; rfl))
             | (((with_reducible apply go_bx_agg); rfl; rfl; (exact Nat.le_of_ble_eq_true rfl); rfl; rfl)))
           | ((with_reducible (show evOps _ _ _ _ _ _)); first
             | (with_reducible apply go_nil))
           | ((with_reducible (show evG _ _ _ _ _)); first
             | (with_reducible apply go_seq)
             | (with_reducible apply go_region)
             | ((with_reducible apply go_cond_t); rfl; rfl)
             | ((with_reducible apply go_cond_f); rfl; rfl)
             | (with_reducible apply go_ret)
             | (with_reducible apply go_skipc))
           | (with_reducible apply go_kseq)
           | (with_reducible apply go_kseq_ret)
           | ((with_reducible apply end_bool); rfl)
           | (with_reducible rfl)
  · have h19 : Contract Try.prog 19 [.agg (encGround g)] (.ret (.bool true)) := hs ▸ c19 g
    obtain ⟨hl, hb⟩ := slight_len hs
    have hl' : g.soils.length < 1000000000000 := by omega
    have hb' : g.borings.length < 1000000000000 := by omega
    have h42 := c42 g hl' hb' p a b
    by_cases h0 : askedE g p [a, b] = 0 ∧ ¬ a < b
    · obtain ⟨h1, h2, h3⟩ := asked0 h0.1
      have hg := okG h1
      have ha := h3 a (by simp)
      have hbb := h3 b (by simp)
      have e42 : columnRE g p a b = (columnE g p a b, 0) := by simp [columnRE, h0.1, h0.2]
      rw [e42] at h42
      obtain ⟨hG, hE⟩ := col_good (p := p) hg (f := a) (t := b) (by omega)
      have h43 : ∀ lv, b ≤ lv ∧ lv ≤ a → Contract Try.prog 43 [.agg (encGround g), .agg (encPt p), .int .i64 lv] (.ret (encSE (soilAt g p lv, 0))) := by
        intro lv hlv
        have := c43 g hl' hb' p lv
        have e : atE g p lv = (soilAt g p lv, 0) := by
          have h4 := lv_between ha hbb hlv
          have e0 : askedE g p [lv] = 0 := by
            unfold askedE
            rw [if_neg (by simp [h1]), if_neg (by simp [h2, h4])]
          simp [atE, e0]
        rw [e] at this; exact this
      refine contract_of mix Try.func9 rfl rfl (by rw [Try.ntmps9]; exact Nat.le_of_ble_eq_true rfl) ?_; rw [Try.results9, Try.ntmps9]; simp only [argsE, Nat.reduceAdd]
      repeat' first
           | (with_reducible apply go_op)
           | (with_reducible apply go_next)
           | ((with_reducible (show evOp _ _ _ _ _ _)); first
             | ((with_reducible (show evOp _ (.move _) _ _ _ _)) ; first | ((with_reducible apply go_mv_int); rfl; rfl) | ((with_reducible apply go_mv_bool); rfl; rfl) | ((with_reducible apply go_mv_os); rfl; rfl) | ((with_reducible apply go_mv_tup); rfl; rfl))
             | ((with_reducible apply go_as))
             | ((with_reducible (show evOp _ (.load _ _) _ _ _ _)) ; first | ((with_reducible apply go_ld_agg); rfl; rfl; rfl; rfl) | ((with_reducible apply go_load_own); rfl; rfl; rfl; rfl))
             | (((with_reducible apply go_index_arr); rfl; rfl; rfl; rfl; omega))
             | (((with_reducible apply go_cmp); rfl; rfl; rfl; rfl))
             | ((with_reducible (show evOp _ (.call _) _ _ _ _)) ; first | ((with_reducible apply go_fn_bool); rfl; (exact c18); rfl) | ((with_reducible apply go_fn_bool); rfl; (exact h19); rfl) | ((with_reducible apply go_fn_fr2); rfl; (exact h42); (exact scalPart); rfl; rfl))
             | (((with_reducible apply go_not); rfl; rfl))
             | (((with_reducible apply go_extract); rfl; rfl))
             | (((with_reducible apply go_bx_agg); rfl; rfl; (exact Nat.le_of_ble_eq_true rfl); rfl; rfl)))
           | ((with_reducible (show evOps _ _ _ _ _ _)); first
             | (with_reducible apply go_nil))
           | ((with_reducible (show evG _ _ _ _ _)); first
             | (with_reducible apply go_seq)
             | (with_reducible apply go_region)
             | ((with_reducible apply go_cond_f); rfl; rfl)
             | (with_reducible apply go_skipc)
             | (with_reducible apply go_block))
           | (with_reducible apply go_kseq)
      refine go_count ((columnE g p a b).length) (fun i => ⟨[(10, .int .i64 i), (9, .int .i64 (lev a (columnE g p a b) i)), (7, .os 480 0 (columnE g p a b).length), (3, .op 0 0 0), (4, .op 32 0 0), (5, .op 64 0 0)], [(0, ⟨2, true, [encGround g]⟩), (32, ⟨2, true, [encPt p]⟩), (64, ⟨3, true, [encAt3 (a, b, c)]⟩), (480, ⟨3, true, (columnE g p a b).map encPart⟩)], 512, 103⟩) (fun i => True) (entails_eq (k := 0) (ns := []) (ks := [10, 9, 7, 3, 4, 5]) [(0, 0), (32, 32), (64, 64), (480, 480)] rfl (by simp) rfl) trivial ?_
      intro i hi hC
      have hlen : (columnE g p a b).length ≤ 12 := by
        have hn := near_lt (p := p) hg.n.1
        have := colE_len g.borings[nearE g p] a b g.borings[nearE g p].layers.length
        have := (hg.bor _ hn).len
        simp only [columnE, List.getElem?_eq_getElem hn]; omega
      by_cases hlt : i < (columnE g p a b).length
      · obtain ⟨q1, q2, q3, q4, q5⟩ := hG i hlt
        have ba := lv_bds ha
        have bb := lv_bds hbb
        have m1 := Int.emod_nonneg c (b := (columnE g p a b)[i].top - (columnE g p a b)[i].bottom) (by omega)
        have m2 := Int.emod_lt_of_pos c (b := (columnE g p a b)[i].top - (columnE g p a b)[i].bottom) (by omega)
        have h44 := c44 c ((columnE g p a b)[i].top - (columnE g p a b)[i].bottom) ⟨by omega, by omega⟩
        have h43' := h43 ((columnE g p a b)[i].top - c % ((columnE g p a b)[i].top - (columnE g p a b)[i].bottom)) ⟨by omega, by omega⟩
        rw [q5 _ (by omega) (by omega)] at h43'
        have q6 := lev_next (f := a) hlt
        clear hE h42 h43 hb hl hb' hl' h19 hs hx h0 h1 h2 h3 hg ha hbb e42
        repeat' first
           | (with_reducible apply go_op)
           | (with_reducible apply go_next)
           | ((with_reducible (show evOp _ _ _ _ _ _)); first
             | ((with_reducible (show evOp _ (.move _) _ _ _ _)) ; first | ((with_reducible apply go_mv_int); rfl; rfl) | ((with_reducible apply go_mv_bool); rfl; rfl) | ((with_reducible apply go_mv_os); rfl; rfl) | ((with_reducible apply go_mv_tup); rfl; rfl) | ((with_reducible apply go_mv_str); rfl; rfl))
             | ((with_reducible apply go_as))
             | ((with_reducible (show evOp _ (.load _ _) _ _ _ _)) ; first | ((with_reducible apply go_load_om); rfl; rfl; rfl; rfl; rotate_left; assumption) | ((with_reducible apply go_ld_agg); rfl; rfl; rfl; rfl) | ((with_reducible apply go_load_own); rfl; rfl; rfl; rfl))
             | (((with_reducible apply go_fieldAddr_own); rfl; rfl; rfl))
             | ((with_reducible (show evOp _ (.indexAddr _ _ _) _ _ _ _)) ; first | ((with_reducible apply go_index_arr); rfl; rfl; rfl; rfl; omega) | ((with_reducible apply go_index_om); rfl; rfl; rfl; (with_reducible rfl); rfl; rfl; omega; (intro hlt)))
             | ((with_reducible (show evOp _ (.binOp _ _ _ _ _) _ _ _ _)) ; first | ((with_reducible apply go_cmp); rfl; rfl; rfl; rfl) | ((with_reducible apply go_add); rfl; rfl; rfl; omega) | ((with_reducible apply go_sub); rfl; rfl; rfl; omega) | ((with_reducible apply go_bin); rfl; rfl))
             | ((with_reducible (show evOp _ (.call _) _ _ _ _)) ; first | ((with_reducible apply go_len_own); rfl; rfl; rfl) | ((with_reducible apply go_fn_int); rfl; (exact h44); rfl) | ((with_reducible apply go_fn_plain); rfl; (exact h43'); rfl; (exact Nat.le_of_ble_eq_true rfl); rfl))
             | (((with_reducible apply go_extract); rfl; rfl))
             | (((with_reducible apply go_pick); rfl; rfl; rfl)))
           | ((with_reducible (show evOps _ _ _ _ _ _)); first
             | (with_reducible apply go_nil)
             | ((with_reducible apply go_run); rfl; rfl)
             | ((with_reducible apply go_pass); rfl; rfl; rfl)
             | (((with_reducible apply go_guard); rfl) <;> (intro h; simp only [h, Bool.not_true, Bool.not_false]; (try with_reducible (refine ⟨rfl, ?_⟩)); try simp only [decide_eq_true_eq, decide_eq_false_iff_not, Bool.not_eq_true', Bool.not_eq_false', Bool.not_true, Bool.not_false] at h; try exact absurd trivial h))
             | ((with_reducible apply go_pre); rfl)
             | (with_reducible apply go_pre_nil)
             | ((with_reducible apply go_suf); rfl)
             | (with_reducible apply go_suf_nil))
           | ((with_reducible (show evG _ _ _ _ _)); first
             | (with_reducible apply go_seq)
             | (with_reducible apply go_region)
             | ((with_reducible apply go_cond_t); rfl; rfl)
             | (((with_reducible apply go_cond); rfl) <;> (intro h; simp only [h]; try simp only [decide_eq_true_eq, decide_eq_false_iff_not, Bool.not_eq_true', Bool.not_eq_false', Bool.not_true, Bool.not_false] at h; try exact absurd trivial h))
             | ((with_reducible apply go_order); kernel_rfl; rfl)
             | (with_reducible apply go_ret)
             | (with_reducible apply go_skipc)
             | (with_reducible apply go_block)
             | (with_reducible apply go_exit))
           | (with_reducible apply go_kseq)
           | (with_reducible apply go_ksuf)
           | (with_reducible apply go_kseq_ret)
           | (with_reducible apply go_kblock)
           | (with_reducible apply go_kblock_ret)
           | (with_reducible apply go_kblock_exit)
           | (with_reducible apply go_kseq_exit)
           | ((with_reducible apply end_bool); rfl)
        all_goals first | (exfalso; omega) | skip
        all_goals first | (refine ⟨hlt, trivial, ?_⟩; rw [q6]; exact entails_eq (k := 0) (ns := []) (ks := [10, 9, 7, 3, 4, 5]) [(0, 0), (32, 32), (64, 64), (480, 480)] rfl (by simp) rfl) | trace_state
      · have e : i = (columnE g p a b).length := by omega
        subst e
        repeat' first
           | (with_reducible apply go_op)
           | (with_reducible apply go_next)
           | ((with_reducible (show evOp _ _ _ _ _ _)); first
             | ((with_reducible (show evOp _ (.move _) _ _ _ _)) ; first | ((with_reducible apply go_mv_int); rfl; rfl) | ((with_reducible apply go_mv_bool); rfl; rfl) | ((with_reducible apply go_mv_os); rfl; rfl))
             | ((with_reducible apply go_as))
             | ((with_reducible (show evOp _ (.load _ _) _ _ _ _)) ; first | ((with_reducible apply go_load_om); rfl; rfl; rfl; rfl; rotate_left; assumption) | ((with_reducible apply go_ld_agg); rfl; rfl; rfl; rfl) | ((with_reducible apply go_load_own); rfl; rfl; rfl; rfl))
             | (((with_reducible apply go_fieldAddr_own); rfl; rfl; rfl))
             | ((with_reducible (show evOp _ (.indexAddr _ _ _) _ _ _ _)) ; first | ((with_reducible apply go_index_arr); rfl; rfl; rfl; rfl; omega) | ((with_reducible apply go_index_om); rfl; rfl; rfl; (with_reducible rfl); rfl; rfl; omega; (intro hlt)))
             | ((with_reducible (show evOp _ (.binOp _ _ _ _ _) _ _ _ _)) ; first | ((with_reducible apply go_cmp); rfl; rfl; rfl; rfl) | ((with_reducible apply go_sub); rfl; rfl; rfl; omega))
             | (((with_reducible apply go_len_own); rfl; rfl; rfl))
             | (((with_reducible apply go_pick); rfl; rfl; rfl)))
           | ((with_reducible (show evOps _ _ _ _ _ _)); first
             | (with_reducible apply go_nil)
             | ((with_reducible apply go_run); rfl; rfl)
             | ((with_reducible apply go_pass); rfl; rfl; rfl)
             | (((with_reducible apply go_guard); rfl) <;> (intro h; simp only [h, Bool.not_true, Bool.not_false]; (try with_reducible (refine ⟨rfl, ?_⟩)); try simp only [decide_eq_true_eq, decide_eq_false_iff_not, Bool.not_eq_true', Bool.not_eq_false', Bool.not_true, Bool.not_false] at h; try exact absurd trivial h))
             | ((with_reducible apply go_pre); rfl))
           | ((with_reducible (show evG _ _ _ _ _)); first
             | (with_reducible apply go_seq)
             | (with_reducible apply go_region)
             | ((with_reducible apply go_cond_t); rfl; rfl)
             | (((with_reducible apply go_cond); rfl) <;> (intro h; simp only [h]; try simp only [decide_eq_true_eq, decide_eq_false_iff_not, Bool.not_eq_true', Bool.not_eq_false', Bool.not_true, Bool.not_false] at h; try exact absurd trivial h))
             | ((with_reducible apply go_order); kernel_rfl; rfl)
             | (with_reducible apply go_ret)
             | (with_reducible apply go_skipc)
             | (with_reducible apply go_block)
             | (with_reducible apply go_exit))
           | (with_reducible apply go_kseq)
           | (with_reducible apply go_kseq_ret)
           | (with_reducible apply go_kblock_ret)
           | (with_reducible apply go_kblock_exit)
           | (with_reducible apply go_kseq_exit)
           | ((with_reducible apply end_bool); rfl)
        all_goals first | (rw [hE]; exact decide_eq_true rfl) | exact absurd ‹_› (by omega)
    · have e42 : ∃ e, e ≠ 0 ∧ columnRE g p a b = ([], e) := by
        unfold columnRE
        by_cases h1 : askedE g p [a, b] = 0
        · rw [if_neg (by simp [h1]), if_pos (by omega)]; exact ⟨9, by decide, rfl⟩
        · rw [if_pos h1]; exact ⟨_, h1, rfl⟩
      obtain ⟨e, he, e42⟩ := e42
      rw [e42] at h42
      refine contract_of mix Try.func9 rfl rfl (by rw [Try.ntmps9]; exact Nat.le_of_ble_eq_true rfl) ?_; rw [Try.results9, Try.ntmps9]; simp only [argsE, Nat.reduceAdd]
      repeat' first
           | (with_reducible apply go_op)
           | (with_reducible apply go_next)
           | ((with_reducible (show evOp _ _ _ _ _ _)); first
             | ((with_reducible (show evOp _ (.move _) _ _ _ _)) ; first | ((with_reducible apply go_mv_int); rfl; rfl) | ((with_reducible apply go_mv_bool); rfl; rfl) | ((with_reducible apply go_mv_os); rfl; rfl) | ((with_reducible apply go_mv_tup); rfl; rfl))
             | ((with_reducible apply go_as))
             | ((with_reducible (show evOp _ (.load _ _) _ _ _ _)) ; first | ((with_reducible apply go_ld_agg); rfl; rfl; rfl; rfl) | ((with_reducible apply go_load_own); rfl; rfl; rfl; rfl))
             | (((with_reducible apply go_index_arr); rfl; rfl; rfl; rfl; omega))
             | (((with_reducible apply go_cmp); rfl; rfl; rfl; rfl))
             | ((with_reducible (show evOp _ (.call _) _ _ _ _)) ; first | ((with_reducible apply go_len_own); rfl; rfl; rfl) | ((with_reducible apply go_fn_bool); rfl; (exact c18); rfl) | ((with_reducible apply go_fn_bool); rfl; (exact h19); rfl) | ((with_reducible apply go_fn_fr2); rfl; (exact h42); (exact scalPart); rfl; rfl))
             | (((with_reducible apply go_not); rfl; rfl))
             | (((with_reducible apply go_extract); rfl; rfl))
             | (((with_reducible apply go_bx_agg); rfl; rfl; (exact Nat.le_of_ble_eq_true rfl); rfl; rfl)))
           | ((with_reducible (show evOps _ _ _ _ _ _)); first
             | (with_reducible apply go_nil))
           | ((with_reducible (show evG _ _ _ _ _)); first
             | (with_reducible apply go_seq)
             | (with_reducible apply go_region)
             | ((with_reducible apply go_cond_f); rfl; rfl)
             | (((with_reducible apply go_cond); rfl) <;> (intro h; simp only [h]; try simp only [decide_eq_true_eq, decide_eq_false_iff_not, Bool.not_eq_true', Bool.not_eq_false', Bool.not_true, Bool.not_false] at h; try exact absurd trivial h))
             | (with_reducible apply go_ret)
             | (with_reducible apply go_skipc)
             | (with_reducible apply go_block))
           | (with_reducible apply go_kseq)
           | (with_reducible apply go_kseq_ret)
           | ((with_reducible apply end_bool); rfl)
      all_goals first | exact absurd ‹e = 0› he | simp
end Go.Pv.Soil

open Go Go.Proofs Go.Pv
set_option maxHeartbeats 2000000
set_option maxRecDepth 100000
set_option linter.unusedSimpArgs false
set_option linter.unusedVariables false
namespace Go.Pv.Soil

theorem c165v (l : List Int) (hl : l.length < 1000000000000) (g : FuncId) (ys : List D) (hst : Stab ys) (hpu : pureL ys = true) (p : Int → Bool) (hf : ∀ x ∈ l, Contract Try.prog g (.int .i64 x :: ys) (.ret (.bool (p x)))) :
    Contract Try.prog 165 [.sl (l.map encInt), .clo (.func g) [] ys] (.ret (.int .i64 (idxOf p l))) := by
  refine contract_of mix Try.func165 rfl rfl (by rw [Try.ntmps165]; exact Nat.le_of_ble_eq_true rfl) ?_; rw [Try.results165, Try.ntmps165]; simp only [argsE, Nat.reduceAdd]
  repeat' first
           | (with_reducible apply go_op)
           | (with_reducible apply go_next)
           | ((with_reducible (show evOp _ _ _ _ _ _)); first
             | ((with_reducible (show evOp _ (.move _) _ _ _ _)) ; first | ((with_reducible apply go_mv_int); rfl; rfl) | ((with_reducible apply go_mv_sl); rfl; rfl))
             | ((with_reducible apply go_as))
             | (((with_reducible apply go_len); rfl; rfl)))
           | ((with_reducible (show evOps _ _ _ _ _ _)); first
             | (with_reducible apply go_nil))
           | ((with_reducible (show evG _ _ _ _ _)); first
             | (with_reducible apply go_seq)
             | (with_reducible apply go_region)
             | (with_reducible apply go_block))
           | (with_reducible apply go_kseq)
  have e8 : ∀ i : Nat, (⟨[(8, .int .i64 i), (7, .int .i64 l.length), (0, .sl (l.map encInt)), (1, .clo (.func g) [] (renL [] ys))], [], 0, 19⟩ : St) = ⟨[(8, .int .i64 i), (7, .int .i64 l.length), (0, .sl (l.map encInt)), (1, .clo (.func g) [] ys)], [], 0, 19⟩ := fun i => by rw [renL_pure hpu]
  refine go_count l.length (fun i => ⟨[(8, .int .i64 i), (7, .int .i64 l.length), (0, .sl (l.map encInt)), (1, .clo (.func g) [] ys)], [], 0, 19⟩) (fun i => ∀ j (hj : j < i) (hj' : j < l.length), p l[j] = false) (entails_eq (k := 0) (ns := []) (ks := [8, 7, 0, 1]) [] rfl (by simp) (e8 _)) (by omega) ?_
  intro i hi hC
  repeat' first
           | (with_reducible apply go_op)
           | (with_reducible apply go_next)
           | ((with_reducible (show evOp _ _ _ _ _ _)); first
             | ((with_reducible (show evOp _ (.move _) _ _ _ _)) ; first | ((with_reducible apply go_mv_int); rfl; rfl) | ((with_reducible apply go_mv_sl); rfl; rfl) | ((with_reducible apply go_mv_clo); rfl; rfl))
             | ((with_reducible apply go_as))
             | (((with_reducible apply go_load); rfl; rfl; rfl))
             | (((with_reducible apply go_index_nat); rfl; rfl; (with_reducible rfl); (intro; rfl); rfl; omega; (intro hlt)))
             | (((with_reducible apply go_cmp); rfl; rfl; rfl; rfl)))
           | ((with_reducible (show evOps _ _ _ _ _ _)); first
             | (with_reducible apply go_nil))
           | ((with_reducible (show evG _ _ _ _ _)); first
             | (with_reducible apply go_seq)
             | (with_reducible apply go_region)
             | (((with_reducible apply go_cond); rfl) <;> (intro h; simp only [h]; try simp only [decide_eq_true_eq, decide_eq_false_iff_not, Bool.not_eq_true', Bool.not_eq_false', Bool.not_true, Bool.not_false] at h; try exact absurd trivial h))
             | (with_reducible apply go_ret)
             | (with_reducible apply go_skipc)
             | (with_reducible apply go_block)
             | (with_reducible apply go_exit))
           | (with_reducible apply go_kseq)
           | (with_reducible apply go_kblock_exit)
           | (with_reducible apply go_kseq_exit)
           | ((with_reducible apply end_int); rfl)
  · refine go_clo_bool rfl rfl hst (hf l[i] (List.getElem_mem _)) rfl ?_
    repeat' first
           | (with_reducible apply go_op)
           | (with_reducible apply go_next)
           | ((with_reducible (show evOp _ _ _ _ _ _)); first
             | (((with_reducible apply go_mv_int); rfl; rfl))
             | ((with_reducible apply go_as))
             | (((with_reducible apply go_add); rfl; rfl; rfl; omega)))
           | ((with_reducible (show evOps _ _ _ _ _ _)); first
             | (with_reducible apply go_nil))
           | ((with_reducible (show evG _ _ _ _ _)); first
             | (with_reducible apply go_seq)
             | (with_reducible apply go_region)
             | (((with_reducible apply go_cond); rfl) <;> (intro h; simp only [h]; try simp only [decide_eq_true_eq, decide_eq_false_iff_not, Bool.not_eq_true', Bool.not_eq_false', Bool.not_true, Bool.not_false] at h; try exact absurd trivial h))
             | (with_reducible apply go_ret)
             | (with_reducible apply go_skipc))
           | (with_reducible apply go_kseq)
           | (with_reducible apply go_kseq_ret)
           | (with_reducible apply go_kblock)
           | (with_reducible apply go_kblock_ret)
           | ((with_reducible apply end_int); rfl)
    · have h2 : i < l.length := by omega
      exact (idxOf_some h2 h fun j hj => hC j hj (by omega)).symm
    · have h2 : i < l.length := by omega
      refine ⟨by omega, fun j hj hj' => ?_, entails_eq (k := 0) (ns := []) (ks := [8, 7, 0, 1]) [] rfl (by simp) (e8 _)⟩
      rcases Nat.lt_succ_iff_lt_or_eq.1 hj with h' | rfl
      · exact hC j h' hj'
      · exact h
  · refine (idxOf_none fun x hx => ?_).symm
    obtain ⟨j, hj, rfl⟩ := List.mem_iff_getElem.1 hx
    exact hC j (by omega) hj


theorem c124v (l : List Int) (hl : l.length < 1000000000000) (g : FuncId) (ys : List D) (hst : Stab ys) (hpu : pureL ys = true) (p : Int → Bool) (hf : ∀ x ∈ l, Contract Try.prog g (.int .i64 x :: ys) (.ret (.bool (p x)))) :
    Contract Try.prog 124 [.sl (l.map encInt), .clo (.func g) [] ys] (.ret (.bool (l.any p))) := by
  refine contract_of mix Try.func124 rfl rfl (by rw [Try.ntmps124]; exact Nat.le_of_ble_eq_true rfl) ?_; rw [Try.results124, Try.ntmps124]; simp only [argsE, Nat.reduceAdd]
  repeat' first
           | (with_reducible apply go_op)
           | (with_reducible apply go_next)
           | ((with_reducible (show evOp _ _ _ _ _ _)); first
             | ((with_reducible (show evOp _ (.move _) _ _ _ _)) ; first | ((with_reducible apply go_mv_bool); rfl; rfl) | ((with_reducible apply go_mv_sl); rfl; rfl) | ((with_reducible apply go_mv_clo); rfl; rfl))
             | ((with_reducible apply go_as)))
           | ((with_reducible (show evOps _ _ _ _ _ _)); first
             | (with_reducible apply go_nil))
           | ((with_reducible (show evG _ _ _ _ _)); first
             | (with_reducible apply go_seq)
             | (with_reducible apply go_region))
           | (with_reducible apply go_kseq)
  refine go_fn_int (args' := [.sl (l.map encInt), .clo (.func g) [] ys]) ?_ (c165v l hl g ys hst hpu p hf) rfl ?_
  · have e := hst (lkH []) 45
    simp only [List.map_cons, List.map_nil, evalD, lkE, purL, pur, Option.bind_some, Option.map_some, Nat.reduceEqDiff, if_true, if_false, e]
  repeat' first
           | (with_reducible apply go_op)
           | (with_reducible apply go_next)
           | ((with_reducible (show evOp _ _ _ _ _ _)); first
             | (((with_reducible apply go_mv_bool); rfl; rfl))
             | ((with_reducible apply go_as))
             | (((with_reducible apply go_cmp); rfl; rfl; rfl; rfl)))
           | ((with_reducible (show evOps _ _ _ _ _ _)); first
             | (with_reducible apply go_nil))
           | ((with_reducible (show evG _ _ _ _ _)); first
             | (with_reducible apply go_ret))
           | (with_reducible apply go_kseq)
           | ((with_reducible apply end_bool); rfl)
  exact idxOf_ge

theorem c198 (n lo hi : Int) : Contract Try.prog 198 [.int .i64 n, .ptr [.int .i64 lo], .ptr [.int .i64 hi]] (.ret (.bool (decide (n < lo ∨ hi < n)))) := by
  refine contract_of mix Try.func198 rfl rfl (by rw [Try.ntmps198]; exact Nat.le_of_ble_eq_true rfl) ?_; rw [Try.results198, Try.ntmps198]; simp only [argsE, Nat.reduceAdd]
  repeat' first
           | (with_reducible apply go_op)
           | (with_reducible apply go_next)
           | ((with_reducible (show evOp _ _ _ _ _ _)); first
             | ((with_reducible (show evOp _ (.move _) _ _ _ _)) ; first | ((with_reducible apply go_mv_int); rfl; rfl) | ((with_reducible apply go_mv_bool); rfl; rfl))
             | ((with_reducible apply go_as))
             | (((with_reducible apply go_load); rfl; rfl; rfl))
             | (((with_reducible apply go_cmp); rfl; rfl; rfl; rfl))
             | (((with_reducible apply go_pick); rfl; rfl; rfl)))
           | ((with_reducible (show evOps _ _ _ _ _ _)); first
             | (with_reducible apply go_nil)
             | ((with_reducible apply go_run); rfl; rfl)
             | ((with_reducible apply go_pass); rfl; rfl; rfl)
             | (((with_reducible apply go_guard); rfl) <;> (intro h; simp only [h, Bool.not_true, Bool.not_false]; (try with_reducible (refine ⟨rfl, ?_⟩)); try simp only [decide_eq_true_eq, decide_eq_false_iff_not, Bool.not_eq_true', Bool.not_eq_false', Bool.not_true, Bool.not_false] at h; try exact absurd trivial h)))
           | ((with_reducible (show evG _ _ _ _ _)); first
             | (with_reducible apply go_seq)
             | (with_reducible apply go_region)
             | (with_reducible apply go_ret))
           | (with_reducible apply go_kseq)
           | ((with_reducible apply end_bool); rfl)
  · exact decide_eq_decide.2 (by omega)
  · exact (decide_eq_true (.inl h)).symm

def betw (lo hi : Int) (l : List Int) : Bool := !l.any fun n => decide (n < lo ∨ hi < n)
theorem c174 (lo hi : Int) (l : List Int) (hl : l.length < 1000000000000) : Contract Try.prog 174 [.int .i64 lo, .int .i64 hi, .sl (l.map encInt)] (.ret (.bool (betw lo hi l))) := by
  refine contract_of mix Try.func174 rfl rfl (by rw [Try.ntmps174]; exact Nat.le_of_ble_eq_true rfl) ?_; rw [Try.results174, Try.ntmps174]; simp only [argsE, Nat.reduceAdd]
  repeat' first
           | (with_reducible apply go_op)
           | (with_reducible apply go_next)
           | ((with_reducible (show evOp _ _ _ _ _ _)); first
             | ((with_reducible (show evOp _ (.move _) _ _ _ _)) ; first | ((with_reducible apply go_mv_bool); rfl; rfl) | ((with_reducible apply go_mv_sl); rfl; rfl))
             | ((with_reducible apply go_as))
             | (((with_reducible apply go_bx_int); rfl; rfl))
             | (((with_reducible apply go_fn2); rfl; rfl; rfl)))
           | ((with_reducible (show evOps _ _ _ _ _ _)); first
             | (with_reducible apply go_nil))
           | ((with_reducible (show evG _ _ _ _ _)); first
             | (with_reducible apply go_seq)
             | (with_reducible apply go_region))
           | (with_reducible apply go_kseq)
  refine go_fn_bool (args' := [.sl (l.map encInt), .clo (.func 198) [] [.ptr [.int .i64 lo], .ptr [.int .i64 hi]]]) rfl (c124v l hl 198 _ (fun _ _ => rfl) rfl (fun n => decide (n < lo ∨ hi < n)) fun x _ => c198 x lo hi) rfl ?_
  repeat' first
           | (with_reducible apply go_op)
           | (with_reducible apply go_next)
           | ((with_reducible (show evOp _ _ _ _ _ _)); first
             | (((with_reducible apply go_mv_bool); rfl; rfl))
             | ((with_reducible apply go_as))
             | (((with_reducible apply go_not); rfl; rfl)))
           | ((with_reducible (show evOps _ _ _ _ _ _)); first
             | (with_reducible apply go_nil))
           | ((with_reducible (show evG _ _ _ _ _)); first
             | (with_reducible apply go_ret))
           | (with_reducible apply go_kseq)
           | ((with_reducible apply end_bool); rfl)
  rfl

theorem betw1 (lo hi n : Int) : betw lo hi [n] = decide (lo ≤ n ∧ n ≤ hi) := by
  simp only [betw, List.any_cons, List.any_nil, Bool.or_false, ← decide_not]
  exact decide_eq_decide.2 (by omega)
theorem betw2 (lo hi n m : Int) : betw lo hi [n, m] = decide ((lo ≤ n ∧ n ≤ hi) ∧ (lo ≤ m ∧ m ≤ hi)) := by
  simp only [betw, List.any_cons, List.any_nil, Bool.or_false, Bool.not_or, ← decide_not, ← Bool.decide_and]
  exact decide_eq_decide.2 (by omega)
theorem c174' (lo hi n : Int) : Contract Try.prog 174 [.int .i64 lo, .int .i64 hi, .sl [[.int .i64 n]]] (.ret (.bool (decide (lo ≤ n ∧ n ≤ hi)))) := betw1 lo hi n ▸ c174 lo hi [n] (by simp)
theorem c174'' (lo hi n m : Int) : Contract Try.prog 174 [.int .i64 lo, .int .i64 hi, .sl [[.int .i64 n], [.int .i64 m]]] (.ret (.bool (decide ((lo ≤ n ∧ n ≤ hi) ∧ (lo ≤ m ∧ m ≤ hi))))) := betw2 lo hi n m ▸ c174 lo hi [n, m] (by simp)

theorem c180 (n : Int) : Contract Try.prog 180 [.int .i64 n] (.ret (.bool (lvOK n))) := by
  refine contract_of mix Try.func180 rfl rfl (by rw [Try.ntmps180]; exact Nat.le_of_ble_eq_true rfl) ?_; rw [Try.results180, Try.ntmps180]; simp only [argsE, Nat.reduceAdd]
  repeat' first
           | (with_reducible apply go_op)
           | (with_reducible apply go_next)
           | ((with_reducible (show evOp _ _ _ _ _ _)); first
             | ((with_reducible (show evOp _ (.move _) _ _ _ _)) ; first | ((with_reducible apply go_mv_int); rfl; rfl) | ((with_reducible apply go_mv_bool); rfl; rfl))
             | ((with_reducible apply go_as))
             | (((with_reducible apply go_fn_bool); rfl; (exact c174' _ _ _); rfl))
             | (((with_reducible apply go_bs1_int); rfl; rfl; rfl)))
           | ((with_reducible (show evOps _ _ _ _ _ _)); first
             | (with_reducible apply go_nil))
           | ((with_reducible (show evG _ _ _ _ _)); first
             | (with_reducible apply go_seq)
             | (with_reducible apply go_region)
             | (with_reducible apply go_ret))
           | (with_reducible apply go_kseq)
           | ((with_reducible apply end_bool); rfl)
  rfl

/-- A level that is neither one nor empty. -/
def badLv (n : Int) : Bool := decide (n ≠ 30000) && !lvOK n
theorem c179 (n : Int) : Contract Try.prog 179 [.int .i64 n] (.ret (.bool (badLv n))) := by
  refine contract_of mix Try.func179 rfl rfl (by rw [Try.ntmps179]; exact Nat.le_of_ble_eq_true rfl) ?_; rw [Try.results179, Try.ntmps179]; simp only [argsE, Nat.reduceAdd]
  repeat' first
           | (with_reducible apply go_op)
           | (with_reducible apply go_next)
           | ((with_reducible (show evOp _ _ _ _ _ _)); first
             | ((with_reducible (show evOp _ (.move _) _ _ _ _)) ; first | ((with_reducible apply go_mv_int); rfl; rfl) | ((with_reducible apply go_mv_bool); rfl; rfl))
             | ((with_reducible apply go_as))
             | (((with_reducible apply go_cmp); rfl; rfl; rfl; rfl))
             | (((with_reducible apply go_fn_bool); rfl; (exact c180 _); rfl))
             | (((with_reducible apply go_not); rfl; rfl))
             | (((with_reducible apply go_pick); rfl; rfl; rfl)))
           | ((with_reducible (show evOps _ _ _ _ _ _)); first
             | (with_reducible apply go_nil)
             | ((with_reducible apply go_run); rfl; rfl)
             | ((with_reducible apply go_pass); rfl; rfl; rfl)
             | (((with_reducible apply go_guard); rfl) <;> (intro h; simp only [h, Bool.not_true, Bool.not_false]; (try with_reducible (refine ⟨rfl, ?_⟩)); try simp only [decide_eq_true_eq, decide_eq_false_iff_not, Bool.not_eq_true', Bool.not_eq_false', Bool.not_true, Bool.not_false] at h; try exact absurd trivial h)))
           | ((with_reducible (show evG _ _ _ _ _)); first
             | (with_reducible apply go_seq)
             | (with_reducible apply go_region)
             | (with_reducible apply go_ret))
           | (with_reducible apply go_kseq)
           | ((with_reducible apply end_bool); rfl)
  · simp [badLv, h]
  · simp [badLv, h]

structure Grid where
  x : Int
  y : Int
  side : Int
  cols : Int
  rows : Int
  levels : List Int
def encGrid (g : Grid) : List D := [.int .i64 g.x, .int .i64 g.y, .int .i64 g.side, .int .i64 g.cols, .int .i64 g.rows, .sl (g.levels.map encInt)]
def gridE (g : Grid) : Int :=
  if ¬ (((-1000000 ≤ g.x ∧ g.x ≤ 1000000) ∧ -1000000 ≤ g.y ∧ g.y ≤ 1000000) ∧ (100 ≤ g.side ∧ g.side ≤ 10000) ∧ (1 ≤ g.cols ∧ g.cols ≤ 1024) ∧ 1 ≤ g.rows ∧ g.rows ≤ 1024) then 2
  else if 1024 < g.cols * g.rows then 8
  else if 1000000 < g.x + g.cols * g.side ∨ 1000000 < g.y + g.rows * g.side then 2
  else if (g.levels.length : Int) ≠ g.cols * g.rows then 10
  else if g.levels.any badLv then 2 else 0

theorem mul_bd {a b m n : Int} (ha : 1 ≤ a ∧ a ≤ m) (hb : 1 ≤ b ∧ b ≤ n) : 1 ≤ a * b ∧ a * b ≤ m * n := by
  constructor
  · exact Int.le_trans (by decide : (1 : Int) ≤ 1 * 1) (Int.mul_le_mul ha.1 hb.1 (by omega) (by omega))
  · exact Int.mul_le_mul ha.2 hb.2 (by omega) (by omega)

theorem c144 (g : Grid) (hl : g.levels.length < 1000000000000) : Contract Try.prog 144 [.agg (encGrid g)] (.ret (.int .i64 (gridE g))) := by
  by_cases hg : ((-1000000 ≤ g.x ∧ g.x ≤ 1000000) ∧ -1000000 ≤ g.y ∧ g.y ≤ 1000000) ∧ (100 ≤ g.side ∧ g.side ≤ 10000) ∧ (1 ≤ g.cols ∧ g.cols ≤ 1024) ∧ 1 ≤ g.rows ∧ g.rows ≤ 1024
  · have b1 := mul_bd hg.2.2.1 hg.2.2.2
    have b2 := mul_bd hg.2.2.1 (b := g.side) (n := 10000) (by omega)
    have b3 := mul_bd hg.2.2.2 (b := g.side) (n := 10000) (by omega)
    refine contract_of mix Try.func144 rfl rfl (by rw [Try.ntmps144]; exact Nat.le_of_ble_eq_true rfl) ?_; rw [Try.results144, Try.ntmps144]; simp only [argsE, Nat.reduceAdd]
    repeat' first
           | (with_reducible apply go_op)
           | (with_reducible apply go_next)
           | ((with_reducible (show evOp _ _ _ _ _ _)); first
             | ((with_reducible (show evOp _ (.move _) _ _ _ _)) ; first | ((with_reducible apply go_mv_int); rfl; rfl) | ((with_reducible apply go_mv_bool); rfl; rfl))
             | ((with_reducible apply go_as))
             | (((with_reducible apply go_load_own); rfl; rfl; rfl; rfl))
             | (((with_reducible apply go_fieldAddr_own); rfl; rfl; rfl))
             | ((with_reducible (show evOp _ (.binOp _ _ _ _ _) _ _ _ _)) ; first | ((with_reducible apply go_cmp); rfl; rfl; rfl; rfl) | ((with_reducible apply go_add); rfl; rfl; rfl; omega) | ((with_reducible apply go_mul); rfl; rfl; rfl; omega))
             | ((with_reducible (show evOp _ (.call _) _ _ _ _)) ; first | ((with_reducible apply go_len); rfl; rfl) | ((with_reducible apply go_fn_bool); rfl; (exact c174' _ _ _); rfl) | ((with_reducible apply go_fn_bool); rfl; (exact c174'' _ _ _ _); rfl) | ((with_reducible apply go_fn_bool); rfl; (exact c124 g.levels hl 179 badLv fun x _ => c179 x); rfl))
             | (((with_reducible apply go_not); rfl; rfl))
             | (((with_reducible apply go_pick); rfl; rfl; rfl))
             | (((with_reducible apply go_bx_agg); rfl; rfl; (exact Nat.le_of_ble_eq_true rfl); rfl; rfl))
             | ((with_reducible (show evOp _ (.buildSlice _ _ _) _ _ _ _)) ; first | ((with_reducible apply go_bs1_int); rfl; rfl; rfl) | ((with_reducible apply go_bs2_int); rfl; rfl; rfl; rfl)))
           | ((with_reducible (show evOps _ _ _ _ _ _)); first
             | (with_reducible apply go_nil)
             | ((with_reducible apply go_run); rfl; rfl)
             | ((with_reducible apply go_pass); rfl; rfl; rfl)
             | (((with_reducible apply go_guard); rfl) <;> (intro h; simp only [h, Bool.not_true, Bool.not_false]; (try with_reducible (refine ⟨rfl, ?_⟩)); try simp only [decide_eq_true_eq, decide_eq_false_iff_not, Bool.not_eq_true', Bool.not_eq_false', Bool.not_true, Bool.not_false] at h; try exact absurd trivial h)))
           | ((with_reducible (show evG _ _ _ _ _)); first
             | (with_reducible apply go_seq)
             | (with_reducible apply go_region)
             | ((with_reducible apply go_cond_t); rfl; rfl)
             | (((with_reducible apply go_cond); rfl) <;> (intro h; simp only [h]; try simp only [decide_eq_true_eq, decide_eq_false_iff_not, Bool.not_eq_true', Bool.not_eq_false', Bool.not_true, Bool.not_false] at h; try exact absurd trivial h))
             | (with_reducible apply go_ret)
             | (with_reducible apply go_skipc)
             | (with_reducible apply go_block))
           | (with_reducible apply go_kseq)
           | (with_reducible apply go_kseq_ret)
           | (with_reducible apply go_kblock)
           | (with_reducible apply go_kblock_ret)
           | ((with_reducible apply end_int); rfl)
    all_goals (unfold gridE; (repeat' split) <;> first | rfl | (exfalso; omega) | (exfalso; simp_all; done))
  · have e : gridE g = 2 := by unfold gridE; rw [if_pos hg]
    rw [e]
    refine contract_of mix Try.func144 rfl rfl (by rw [Try.ntmps144]; exact Nat.le_of_ble_eq_true rfl) ?_; rw [Try.results144, Try.ntmps144]; simp only [argsE, Nat.reduceAdd]
    repeat' first
           | (with_reducible apply go_op)
           | (with_reducible apply go_next)
           | ((with_reducible (show evOp _ _ _ _ _ _)); first
             | ((with_reducible (show evOp _ (.move _) _ _ _ _)) ; first | ((with_reducible apply go_mv_int); rfl; rfl) | ((with_reducible apply go_mv_bool); rfl; rfl))
             | ((with_reducible apply go_as))
             | (((with_reducible apply go_load_own); rfl; rfl; rfl; rfl))
             | (((with_reducible apply go_fieldAddr_own); rfl; rfl; rfl))
             | ((with_reducible (show evOp _ (.binOp _ _ _ _ _) _ _ _ _)) ; first | ((with_reducible apply go_cmp); rfl; rfl; rfl; rfl) | ((with_reducible apply go_add); rfl; rfl; rfl; omega) | ((with_reducible apply go_mul); rfl; rfl; rfl; omega))
             | ((with_reducible (show evOp _ (.call _) _ _ _ _)) ; first | ((with_reducible apply go_len); rfl; rfl) | ((with_reducible apply go_fn_bool); rfl; (exact c174' _ _ _); rfl) | ((with_reducible apply go_fn_bool); rfl; (exact c174'' _ _ _ _); rfl))
             | (((with_reducible apply go_not); rfl; rfl))
             | (((with_reducible apply go_pick); rfl; rfl; rfl))
             | (((with_reducible apply go_bx_agg); rfl; rfl; (exact Nat.le_of_ble_eq_true rfl); rfl; rfl))
             | ((with_reducible (show evOp _ (.buildSlice _ _ _) _ _ _ _)) ; first | ((with_reducible apply go_bs1_int); rfl; rfl; rfl) | ((with_reducible apply go_bs2_int); rfl; rfl; rfl; rfl)))
           | ((with_reducible (show evOps _ _ _ _ _ _)); first
             | (with_reducible apply go_nil)
             | ((with_reducible apply go_run); rfl; rfl)
             | ((with_reducible apply go_pass); rfl; rfl; rfl)
             | (((with_reducible apply go_guard); rfl) <;> (intro h; simp only [h, Bool.not_true, Bool.not_false]; (try with_reducible (refine ⟨rfl, ?_⟩)); try simp only [decide_eq_true_eq, decide_eq_false_iff_not, Bool.not_eq_true', Bool.not_eq_false', Bool.not_true, Bool.not_false] at h; try exact absurd trivial h)))
           | ((with_reducible (show evG _ _ _ _ _)); first
             | (with_reducible apply go_seq)
             | (with_reducible apply go_region)
             | ((with_reducible apply go_cond_t); rfl; rfl)
             | (((with_reducible apply go_cond); rfl) <;> (intro h; simp only [h]; try simp only [decide_eq_true_eq, decide_eq_false_iff_not, Bool.not_eq_true', Bool.not_eq_false', Bool.not_true, Bool.not_false] at h; try exact absurd trivial h))
             | (with_reducible apply go_ret)
             | (with_reducible apply go_block))
           | (with_reducible apply go_kseq)
           | (with_reducible apply go_kseq_ret)
           | (with_reducible apply go_kblock_ret)
           | ((with_reducible apply end_int); rfl)
           | (with_reducible rfl)
    all_goals first | rfl | (exfalso; omega)

def alikeE (a b : Grid) : Bool := decide (a.x = b.x ∧ a.y = b.y ∧ a.side = b.side ∧ a.cols = b.cols ∧ a.rows = b.rows)
theorem c145 (a b : Grid) : Contract Try.prog 145 [.agg (encGrid a), .agg (encGrid b)] (.ret (.bool (alikeE a b))) := by
  refine contract_of mix Try.func145 rfl rfl (by rw [Try.ntmps145]; exact Nat.le_of_ble_eq_true rfl) ?_; rw [Try.results145, Try.ntmps145]; simp only [argsE, Nat.reduceAdd]
  repeat' first
           | (with_reducible apply go_op)
           | (with_reducible apply go_next)
           | ((with_reducible (show evOp _ _ _ _ _ _)); first
             | (((with_reducible apply go_mv_bool); rfl; rfl))
             | ((with_reducible apply go_as))
             | (((with_reducible apply go_load_own); rfl; rfl; rfl; rfl))
             | (((with_reducible apply go_fieldAddr_own); rfl; rfl; rfl))
             | (((with_reducible apply go_cmp); rfl; rfl; rfl; rfl))
             | (((with_reducible apply go_pick); rfl; rfl; rfl))
             | (((with_reducible apply go_bx_agg); rfl; rfl; (exact Nat.le_of_ble_eq_true rfl); rfl; rfl)))
           | ((with_reducible (show evOps _ _ _ _ _ _)); first
             | (with_reducible apply go_nil)
             | ((with_reducible apply go_run); rfl; rfl)
             | ((with_reducible apply go_pass); rfl; rfl; rfl)
             | (((with_reducible apply go_guard); rfl) <;> (intro h; simp only [h, Bool.not_true, Bool.not_false]; (try with_reducible (refine ⟨rfl, ?_⟩)); try simp only [decide_eq_true_eq, decide_eq_false_iff_not, Bool.not_eq_true', Bool.not_eq_false', Bool.not_true, Bool.not_false] at h; try exact absurd trivial h)))
           | ((with_reducible (show evG _ _ _ _ _)); first
             | (with_reducible apply go_seq)
             | (with_reducible apply go_region)
             | (with_reducible apply go_ret))
           | (with_reducible apply go_kseq)
           | ((with_reducible apply end_bool); rfl)
  all_goals simp [alikeE, *]
theorem c40 (a b : Grid) : Contract Try.prog 40 [.agg (encGrid a), .agg (encGrid b)] (.ret (.bool (alikeE a b))) := by
  refine contract_of mix Try.func40 rfl rfl (by rw [Try.ntmps40]; exact Nat.le_of_ble_eq_true rfl) ?_; rw [Try.results40, Try.ntmps40]; simp only [argsE, Nat.reduceAdd]
  repeat' first
           | (with_reducible apply go_op)
           | (with_reducible apply go_next)
           | ((with_reducible (show evOp _ _ _ _ _ _)); first
             | (((with_reducible apply go_mv_bool); rfl; rfl))
             | ((with_reducible apply go_as))
             | (((with_reducible apply go_load_own); rfl; rfl; rfl; rfl))
             | (((with_reducible apply go_fieldAddr_own); rfl; rfl; rfl))
             | (((with_reducible apply go_cmp); rfl; rfl; rfl; rfl))
             | (((with_reducible apply go_pick); rfl; rfl; rfl))
             | (((with_reducible apply go_bx_agg); rfl; rfl; (exact Nat.le_of_ble_eq_true rfl); rfl; rfl)))
           | ((with_reducible (show evOps _ _ _ _ _ _)); first
             | (with_reducible apply go_nil)
             | ((with_reducible apply go_run); rfl; rfl)
             | ((with_reducible apply go_pass); rfl; rfl; rfl)
             | (((with_reducible apply go_guard); rfl) <;> (intro h; simp only [h, Bool.not_true, Bool.not_false]; (try with_reducible (refine ⟨rfl, ?_⟩)); try simp only [decide_eq_true_eq, decide_eq_false_iff_not, Bool.not_eq_true', Bool.not_eq_false', Bool.not_true, Bool.not_false] at h; try exact absurd trivial h)))
           | ((with_reducible (show evG _ _ _ _ _)); first
             | (with_reducible apply go_seq)
             | (with_reducible apply go_region)
             | (with_reducible apply go_ret))
           | (with_reducible apply go_kseq)
           | ((with_reducible apply end_bool); rfl)
  all_goals simp [alikeE, *]
theorem c53 (a b : Grid) : Contract Try.prog 53 [.agg (encGrid a), .agg (encGrid b)] (.ret (.int .i64 (if alikeE a b = true then 0 else 10))) := by
  refine contract_of mix Try.func53 rfl rfl (by rw [Try.ntmps53]; exact Nat.le_of_ble_eq_true rfl) ?_; rw [Try.results53, Try.ntmps53]; simp only [argsE, Nat.reduceAdd]
  repeat' first
           | (with_reducible apply go_op)
           | (with_reducible apply go_next)
           | ((with_reducible (show evOp _ _ _ _ _ _)); first
             | (((with_reducible apply go_mv_int); rfl; rfl))
             | ((with_reducible apply go_as))
             | (((with_reducible apply go_ld_agg); rfl; rfl; rfl; rfl))
             | (((with_reducible apply go_fn_bool); rfl; (exact c40 _ _); rfl))
             | (((with_reducible apply go_not); rfl; rfl))
             | (((with_reducible apply go_bx_agg); rfl; rfl; (exact Nat.le_of_ble_eq_true rfl); rfl; rfl)))
           | ((with_reducible (show evOps _ _ _ _ _ _)); first
             | (with_reducible apply go_nil))
           | ((with_reducible (show evG _ _ _ _ _)); first
             | (with_reducible apply go_seq)
             | (with_reducible apply go_region)
             | (((with_reducible apply go_cond); rfl) <;> (intro h; simp only [h]; try simp only [decide_eq_true_eq, decide_eq_false_iff_not, Bool.not_eq_true', Bool.not_eq_false', Bool.not_true, Bool.not_false] at h; try exact absurd trivial h))
             | (with_reducible apply go_ret)
             | (with_reducible apply go_skipc))
           | (with_reducible apply go_kseq)
           | (with_reducible apply go_kseq_ret)
           | ((with_reducible apply end_int); rfl)
  all_goals simp [*]

theorem c28 (g : Grid) (hl : g.levels.length < 1000000000000) : Contract Try.prog 28 [.agg (encGrid g)] (.ret (.int .i64 (gridE g))) := by
  by_cases hg : ((-1000000 ≤ g.x ∧ g.x ≤ 1000000) ∧ -1000000 ≤ g.y ∧ g.y ≤ 1000000) ∧ (100 ≤ g.side ∧ g.side ≤ 10000) ∧ (1 ≤ g.cols ∧ g.cols ≤ 1024) ∧ 1 ≤ g.rows ∧ g.rows ≤ 1024
  · have b1 := mul_bd hg.2.2.1 hg.2.2.2
    have b2 := mul_bd hg.2.2.1 (b := g.side) (n := 10000) (by omega)
    have b3 := mul_bd hg.2.2.2 (b := g.side) (n := 10000) (by omega)
    refine contract_of mix Try.func28 rfl rfl (by rw [Try.ntmps28]; exact Nat.le_of_ble_eq_true rfl) ?_; rw [Try.results28, Try.ntmps28]; simp only [argsE, Nat.reduceAdd]
    repeat' first
           | (with_reducible apply go_op)
           | (with_reducible apply go_next)
           | ((with_reducible (show evOp _ _ _ _ _ _)); first
             | ((with_reducible (show evOp _ (.move _) _ _ _ _)) ; first | ((with_reducible apply go_mv_int); rfl; rfl) | ((with_reducible apply go_mv_bool); rfl; rfl))
             | ((with_reducible apply go_as))
             | (((with_reducible apply go_load_own); rfl; rfl; rfl; rfl))
             | (((with_reducible apply go_fieldAddr_own); rfl; rfl; rfl))
             | ((with_reducible (show evOp _ (.binOp _ _ _ _ _) _ _ _ _)) ; first | ((with_reducible apply go_cmp); rfl; rfl; rfl; rfl) | ((with_reducible apply go_add); rfl; rfl; rfl; omega) | ((with_reducible apply go_mul); rfl; rfl; rfl; omega))
             | ((with_reducible (show evOp _ (.call _) _ _ _ _)) ; first | ((with_reducible apply go_len); rfl; rfl) | ((with_reducible apply go_fn_bool); rfl; (exact c38 _ _ _); rfl))
             | (((with_reducible apply go_not); rfl; rfl))
             | (((with_reducible apply go_pick); rfl; rfl; rfl))
             | (((with_reducible apply go_bx_agg); rfl; rfl; (exact Nat.le_of_ble_eq_true rfl); rfl; rfl)))
           | ((with_reducible (show evOps _ _ _ _ _ _)); first
             | (with_reducible apply go_nil)
             | ((with_reducible apply go_run); rfl; rfl)
             | ((with_reducible apply go_pass); rfl; rfl; rfl)
             | (((with_reducible apply go_guard); rfl) <;> (intro h; simp only [h, Bool.not_true, Bool.not_false]; (try with_reducible (refine ⟨rfl, ?_⟩)); try simp only [decide_eq_true_eq, decide_eq_false_iff_not, Bool.not_eq_true', Bool.not_eq_false', Bool.not_true, Bool.not_false] at h; try exact absurd trivial h)))
           | ((with_reducible (show evG _ _ _ _ _)); first
             | (with_reducible apply go_seq)
             | (with_reducible apply go_region)
             | ((with_reducible apply go_cond_t); rfl; rfl)
             | (((with_reducible apply go_cond); rfl) <;> (intro h; simp only [h]; try simp only [decide_eq_true_eq, decide_eq_false_iff_not, Bool.not_eq_true', Bool.not_eq_false', Bool.not_true, Bool.not_false] at h; try exact absurd trivial h))
             | (with_reducible apply go_ret)
             | (with_reducible apply go_skipc)
             | (with_reducible apply go_block))
           | (with_reducible apply go_kseq)
           | (with_reducible apply go_kseq_ret)
           | ((with_reducible apply end_int); rfl)
    all_goals first | (unfold gridE; (repeat' split) <;> first | rfl | (exfalso; omega) | (exfalso; simp_all; done)) | skip
    have e : gridE g = if g.levels.any badLv then 2 else 0 := by
      unfold gridE; rw [if_neg (by omega), if_neg (by omega), if_neg (by omega), if_neg (by omega)]
    rw [e]
    refine go_count (g.levels.length) (fun i => ⟨[(3, .int .i64 i), (1, .op 0 0 0)], [(0, ⟨6, true, [encGrid g]⟩)], 32, 89⟩) (fun i => ∀ j (hj : j < i) (hj' : j < g.levels.length), badLv g.levels[j] = false) (entails_eq (k := 0) (ns := []) (ks := [3, 1]) [(0, 0)] rfl (by simp) rfl) (fun j h _ => absurd h (Nat.not_lt_zero _)) ?_
    intro i hi hC
    repeat' first
           | (with_reducible apply go_op)
           | (with_reducible apply go_next)
           | ((with_reducible (show evOp _ _ _ _ _ _)); first
             | ((with_reducible (show evOp _ (.move _) _ _ _ _)) ; first | ((with_reducible apply go_mv_int); rfl; rfl) | ((with_reducible apply go_mv_bool); rfl; rfl))
             | ((with_reducible apply go_as))
             | ((with_reducible (show evOp _ (.load _ _) _ _ _ _)) ; first | ((with_reducible apply go_load); rfl; rfl; rfl) | ((with_reducible apply go_load_own); rfl; rfl; rfl; rfl))
             | (((with_reducible apply go_fieldAddr_own); rfl; rfl; rfl))
             | (((with_reducible apply go_index_nat); rfl; rfl; (with_reducible rfl); (intro; rfl); rfl; omega; (intro hlt)))
             | ((with_reducible (show evOp _ (.binOp _ _ _ _ _) _ _ _ _)) ; first | ((with_reducible apply go_cmp); rfl; rfl; rfl; rfl) | ((with_reducible apply go_add); rfl; rfl; rfl; omega))
             | ((with_reducible (show evOp _ (.call _) _ _ _ _)) ; first | ((with_reducible apply go_len); rfl; rfl) | ((with_reducible apply go_fn_bool); rfl; (exact c48 _); rfl))
             | (((with_reducible apply go_not); rfl; rfl))
             | (((with_reducible apply go_pick); rfl; rfl; rfl)))
           | ((with_reducible (show evOps _ _ _ _ _ _)); first
             | (with_reducible apply go_nil)
             | ((with_reducible apply go_run); rfl; rfl)
             | ((with_reducible apply go_pass); rfl; rfl; rfl)
             | (((with_reducible apply go_guard); rfl) <;> (intro h; simp only [h, Bool.not_true, Bool.not_false]; (try with_reducible (refine ⟨rfl, ?_⟩)); try simp only [decide_eq_true_eq, decide_eq_false_iff_not, Bool.not_eq_true', Bool.not_eq_false', Bool.not_true, Bool.not_false] at h; try exact absurd trivial h)))
           | ((with_reducible (show evG _ _ _ _ _)); first
             | (with_reducible apply go_seq)
             | (with_reducible apply go_region)
             | ((with_reducible apply go_cond_f); rfl; rfl)
             | (((with_reducible apply go_cond); rfl) <;> (intro h; simp only [h]; try simp only [decide_eq_true_eq, decide_eq_false_iff_not, Bool.not_eq_true', Bool.not_eq_false', Bool.not_true, Bool.not_false] at h; try exact absurd trivial h))
             | (with_reducible apply go_ret)
             | (with_reducible apply go_skipc)
             | (with_reducible apply go_block)
             | (with_reducible apply go_exit))
           | (with_reducible apply go_kseq)
           | (with_reducible apply go_kseq_ret)
           | (with_reducible apply go_kblock)
           | (with_reducible apply go_kblock_ret)
           | (with_reducible apply go_kblock_exit)
           | (with_reducible apply go_kseq_exit)
           | ((with_reducible apply end_int); rfl)
    · have h1 : ¬ g.levels[i] = 30000 := by assumption
      rw [if_pos (List.any_eq_true.2 ⟨g.levels[i], List.getElem_mem _, by simp [badLv, h, h1]⟩)]
    · have h2 : i < g.levels.length := by omega
      refine ⟨h2, fun j hj hj' => ?_, entails_eq (k := 0) (ns := []) (ks := [3, 1]) [(0, 0)] rfl (by simp) rfl⟩
      rcases Nat.lt_succ_iff_lt_or_eq.1 hj with h' | rfl
      · exact hC j h' hj'
      · simp [badLv, h]
    · have h2 : i < g.levels.length := by omega
      refine ⟨h2, fun j hj hj' => ?_, entails_eq (k := 0) (ns := []) (ks := [3, 1]) [(0, 0)] rfl (by simp) rfl⟩
      rcases Nat.lt_succ_iff_lt_or_eq.1 hj with h' | rfl
      · exact hC j h' hj'
      · simp [badLv, h]
    · rw [if_neg]
      intro hh
      obtain ⟨x, hx, hb⟩ := List.any_eq_true.1 hh
      obtain ⟨j, hj, rfl⟩ := List.mem_iff_getElem.1 hx
      rw [hC j (by omega) hj] at hb
      cases hb
  · have e : gridE g = 2 := by unfold gridE; rw [if_pos hg]
    rw [e]
    refine contract_of mix Try.func28 rfl rfl (by rw [Try.ntmps28]; exact Nat.le_of_ble_eq_true rfl) ?_; rw [Try.results28, Try.ntmps28]; simp only [argsE, Nat.reduceAdd]
    repeat' first
           | (with_reducible apply go_op)
           | (with_reducible apply go_next)
           | ((with_reducible (show evOp _ _ _ _ _ _)); first
             | ((with_reducible (show evOp _ (.move _) _ _ _ _)) ; first | ((with_reducible apply go_mv_int); rfl; rfl) | ((with_reducible apply go_mv_bool); rfl; rfl))
             | ((with_reducible apply go_as))
             | (((with_reducible apply go_load_own); rfl; rfl; rfl; rfl))
             | (((with_reducible apply go_fieldAddr_own); rfl; rfl; rfl))
             | ((with_reducible (show evOp _ (.binOp _ _ _ _ _) _ _ _ _)) ; first | ((with_reducible apply go_cmp); rfl; rfl; rfl; rfl) | ((with_reducible apply go_add); rfl; rfl; rfl; omega) | ((with_reducible apply go_mul); rfl; rfl; rfl; omega))
             | ((with_reducible (show evOp _ (.call _) _ _ _ _)) ; first | ((with_reducible apply go_len); rfl; rfl) | ((with_reducible apply go_fn_bool); rfl; (exact c38 _ _ _); rfl))
             | (((with_reducible apply go_not); rfl; rfl))
             | (((with_reducible apply go_pick); rfl; rfl; rfl))
             | (((with_reducible apply go_bx_agg); rfl; rfl; (exact Nat.le_of_ble_eq_true rfl); rfl; rfl)))
           | ((with_reducible (show evOps _ _ _ _ _ _)); first
             | (with_reducible apply go_nil)
             | ((with_reducible apply go_run); rfl; rfl)
             | ((with_reducible apply go_pass); rfl; rfl; rfl)
             | (((with_reducible apply go_guard); rfl) <;> (intro h; simp only [h, Bool.not_true, Bool.not_false]; (try with_reducible (refine ⟨rfl, ?_⟩)); try simp only [decide_eq_true_eq, decide_eq_false_iff_not, Bool.not_eq_true', Bool.not_eq_false', Bool.not_true, Bool.not_false] at h; try exact absurd trivial h)))
           | ((with_reducible (show evG _ _ _ _ _)); first
             | (with_reducible apply go_seq)
             | (with_reducible apply go_region)
             | ((with_reducible apply go_cond_t); rfl; rfl)
             | (((with_reducible apply go_cond); rfl) <;> (intro h; simp only [h]; try simp only [decide_eq_true_eq, decide_eq_false_iff_not, Bool.not_eq_true', Bool.not_eq_false', Bool.not_true, Bool.not_false] at h; try exact absurd trivial h))
             | (with_reducible apply go_ret)
             | (with_reducible apply go_skipc)
             | (with_reducible apply go_block))
           | (with_reducible apply go_kseq)
           | (with_reducible apply go_kseq_ret)
           | ((with_reducible apply end_int); rfl)
           | (with_reducible rfl)
    all_goals first | rfl | (exfalso; omega)
end Go.Pv.Soil

open Go Go.Proofs Go.Pv
set_option maxHeartbeats 4000000
set_option maxRecDepth 100000
set_option linter.unusedSimpArgs false
set_option linter.unusedVariables false
namespace Go.Pv.Soil
def encF5 (g : Grid) : List D := [.int .i64 g.x, .int .i64 g.y, .int .i64 g.side, .int .i64 g.cols, .int .i64 g.rows]
theorem c194 (n : Int) : Contract Try.prog 194 [.int .i64 n] (.ret (.int .i64 30000)) := by
  refine contract_of mix Try.func194 rfl rfl (by rw [Try.ntmps194]; exact Nat.le_of_ble_eq_true rfl) ?_; rw [Try.results194, Try.ntmps194]; simp only [argsE, Nat.reduceAdd]
  repeat' first
           | (with_reducible apply go_op)
           | (with_reducible apply go_next)
           | ((with_reducible (show evOp _ _ _ _ _ _)); first
             | (((with_reducible apply go_mv_int); rfl; rfl))
             | ((with_reducible apply go_as)))
           | ((with_reducible (show evOps _ _ _ _ _ _)); first
             | (with_reducible apply go_nil))
           | ((with_reducible (show evG _ _ _ _ _)); first
             | (with_reducible apply go_seq)
             | (with_reducible apply go_region)
             | (with_reducible apply go_ret))
           | (with_reducible apply go_kseq)
           | ((with_reducible apply end_int); rfl)
           | (with_reducible rfl)
def fillL (n i : Nat) : List Int := List.replicate i 30000 ++ List.replicate (n - i) 0
theorem fill_0 (n : Nat) : List.replicate ((n : Int).toNat) (cellsD (D.int .i64 0)) = (fillL n 0).map encInt := by
  show List.replicate n _ = _
  simp [fillL, encInt, cellsD]
theorem fill_n (n : Nat) : List.replicate n (30000 : Int) = fillL n n := by simp [fillL]
theorem fill_len {n i : Nat} (h : i ≤ n) : (fillL n i).length = n := by simp [fillL]; omega
theorem fill_set {n i : Nat} (h : i < n) : (fillL n i).set i 30000 = fillL n (i + 1) := by
  unfold fillL
  obtain ⟨k, hk⟩ : ∃ k, n - i = k + 1 := ⟨n - i - 1, by omega⟩
  rw [hk, show n - (i + 1) = k by omega, List.set_append_right _ _ (by simp), List.length_replicate, Nat.sub_self, List.replicate_succ, List.set_cons_zero, List.replicate_succ' (n := i), List.append_assoc]
  rfl
theorem c193 (m : Grid) (hl : m.levels.length ≤ 1000000000) : Contract Try.prog 193 [.agg (encGrid m), .clo (.func 194) [] []] (.ret (.agg (encF5 m ++ [.fr 1 ((List.replicate m.levels.length (30000 : Int)).map encInt)]))) := by
  refine contract_of mix Try.func193 rfl rfl (by rw [Try.ntmps193]; exact Nat.le_of_ble_eq_true rfl) ?_; rw [Try.results193, Try.ntmps193]; simp only [argsE, Nat.reduceAdd]
  repeat' first
           | (with_reducible apply go_op)
           | (with_reducible apply go_next)
           | ((with_reducible (show evOp _ _ _ _ _ _)); first
             | ((with_reducible (show evOp _ (.load _ _) _ _ _ _)) ; first | ((with_reducible apply go_ld_agg); rfl; rfl; rfl; rfl) | ((with_reducible apply go_load_own); rfl; rfl; rfl; rfl))
             | (((with_reducible apply go_fieldAddr_own); rfl; rfl; rfl))
             | (((with_reducible apply go_len); rfl; rfl))
             | (((with_reducible apply go_st_agg); rfl; rfl; rfl; rfl; rfl; rfl; rfl))
             | (((with_reducible apply go_bx_agg); rfl; rfl; (exact Nat.le_of_ble_eq_true rfl); rfl; rfl))
             | (((with_reducible apply go_alloc); rfl; rfl; rfl)))
           | ((with_reducible (show evOps _ _ _ _ _ _)); first
             | (with_reducible apply go_nil))
           | ((with_reducible (show evG _ _ _ _ _)); first
             | (with_reducible apply go_seq)
             | (with_reducible apply go_region))
           | (with_reducible apply go_kseq)
  refine go_makeSlice (e := 3) (k := .i64) (k' := .i64) (m := m.levels.length) (m' := m.levels.length) (z := .int .i64 0) Try.underlying33 rfl rfl (by kernel_rfl) ⟨rfl, by kernel_rfl, by decide +kernel, by omega, rfl, by omega, ?_⟩ rfl ?_
  · have : Try.prog.bytesOf 3 = 8 := by kernel_rfl
    rw [this]; omega
  rw [fill_0]
  repeat' first
           | (with_reducible apply go_op)
           | (with_reducible apply go_next)
           | ((with_reducible (show evOp _ _ _ _ _ _)); first
             | (((with_reducible apply go_mv_int); rfl; rfl))
             | (((with_reducible apply go_load_own); rfl; rfl; rfl; rfl))
             | (((with_reducible apply go_fieldAddr_own); rfl; rfl; rfl))
             | (((with_reducible apply go_len_own); rfl; rfl; rfl))
             | (((with_reducible apply go_store); rfl; rfl; rfl; rfl; rfl; rfl; (exact Nat.le_of_ble_eq_true rfl); (first | exact Nat.le_of_ble_eq_true rfl | omega); rfl; rfl)))
           | ((with_reducible (show evOps _ _ _ _ _ _)); first
             | (with_reducible apply go_nil))
           | ((with_reducible (show evG _ _ _ _ _)); first
             | (with_reducible apply go_seq)
             | (with_reducible apply go_region)
             | (with_reducible apply go_block))
           | (with_reducible apply go_kseq)
  refine go_count m.levels.length (fun i => ⟨[(16, .int .i64 i), (15, .int .i64 m.levels.length), (14, .os 3 0 m.levels.length), (5, .op 2 0 0), (4, .op 1 0 0), (1, .clo (.func 194) [] [])], [(1, ⟨6, false, [[.int .i64 0, .int .i64 0, .int .i64 0, .int .i64 0, .int .i64 0, .nilsl]]⟩), (2, ⟨6, false, [encF5 m ++ [.os 3 0 m.levels.length]]⟩), (3, ⟨1, true, (fillL m.levels.length i).map encInt⟩)], 32, 28⟩) (fun i => True)
    (entails_eq (nx := 32) (k := 0) (ns := []) (ks := [16, 15, 14, 5, 4, 1]) [(32, 1), (96, 2), (256, 3)] rfl (by simp) (by kernel_rfl)) trivial ?_
  intro i hi _
  by_cases hlt : i < m.levels.length
  · have hle := fill_len (n := m.levels.length) (i := i) (by omega)
    repeat' first
           | (with_reducible apply go_op)
           | (with_reducible apply go_next)
           | ((with_reducible (show evOp _ _ _ _ _ _)); first
             | ((with_reducible (show evOp _ (.move _) _ _ _ _)) ; first | ((with_reducible apply go_mv_int); rfl; rfl) | ((with_reducible apply go_mv_clo); rfl; rfl))
             | ((with_reducible apply go_as))
             | ((with_reducible (show evOp _ (.load _ _) _ _ _ _)) ; first | ((with_reducible apply go_ld_agg); rfl; rfl; rfl; rfl) | ((with_reducible apply go_load_own); rfl; rfl; rfl; rfl))
             | (((with_reducible apply go_fieldAddr_own); rfl; rfl; rfl))
             | (((with_reducible apply go_cmp); rfl; rfl; rfl; rfl))
             | (((with_reducible apply go_st_agg); rfl; rfl; rfl; rfl; rfl; rfl; rfl)))
           | ((with_reducible (show evOps _ _ _ _ _ _)); first
             | (with_reducible apply go_nil)
             | ((with_reducible apply go_pre); rfl))
           | ((with_reducible (show evG _ _ _ _ _)); first
             | (with_reducible apply go_seq)
             | (with_reducible apply go_region)
             | (((with_reducible apply go_cond); rfl) <;> (intro h; simp only [h]; try simp only [decide_eq_true_eq, decide_eq_false_iff_not, Bool.not_eq_true', Bool.not_eq_false', Bool.not_true, Bool.not_false] at h; try exact absurd trivial h))
             | ((with_reducible apply go_order); kernel_rfl; rfl)
             | (with_reducible apply go_ret)
             | (with_reducible apply go_skipc)
             | (with_reducible apply go_block)
             | (with_reducible apply go_exit))
           | (with_reducible apply go_kseq)
           | (with_reducible apply go_kblock_exit)
           | (with_reducible apply go_kseq_exit)
    rotate_left
    · exfalso; omega
    refine go_clo_int (g := 194) (ys := []) (d1 := .int .i64 i) rfl rfl (fun _ _ => rfl) (c194 i) rfl ?_
    repeat' first
           | (with_reducible apply go_op)
           | (with_reducible apply go_next)
           | ((with_reducible (show evOp _ _ _ _ _ _)); first
             | (((with_reducible apply go_index_om); rfl; rfl; rfl; (with_reducible rfl); rfl; rfl; omega; (intro hlt))))
           | ((with_reducible (show evOps _ _ _ _ _ _)); first
             | (with_reducible apply go_nil)
             | ((with_reducible apply go_pre); rfl)
             | ((with_reducible apply go_pre_stop); rfl)
             | ((with_reducible apply go_suf); rfl)
             | ((with_reducible apply go_suf_stop); rfl))
           | (with_reducible apply go_ksuf)
    refine go_store_om (f := encInt) (l := fillL m.levels.length i) (a := 30000) rfl rfl rfl (by omega) rfl rfl rfl rfl (Nat.le_refl _) rfl ?_
    rw [fill_set (n := m.levels.length) (i := i) (by omega)]
    repeat' first
           | (with_reducible apply go_op)
           | (with_reducible apply go_next)
           | ((with_reducible (show evOp _ _ _ _ _ _)); first
             | (((with_reducible apply go_mv_int); rfl; rfl))
             | (((with_reducible apply go_add); rfl; rfl; rfl; omega)))
           | ((with_reducible (show evOps _ _ _ _ _ _)); first
             | (with_reducible apply go_nil))
           | ((with_reducible (show evG _ _ _ _ _)); first
             | (with_reducible apply go_region))
           | (with_reducible apply go_kseq)
           | (with_reducible apply go_kblock)
    exact ⟨by omega, trivial, entails_eq (nx := 32) (k := 0) (ns := []) (ks := [16, 15, 14, 5, 4, 1]) [(1, 1), (2, 2), (3, 3)] rfl (by simp) (by kernel_rfl)⟩
  · have e : i = m.levels.length := by omega
    subst e
    rw [fill_n]
    repeat' first
           | (with_reducible apply go_op)
           | (with_reducible apply go_next)
           | ((with_reducible (show evOp _ _ _ _ _ _)); first
             | ((with_reducible (show evOp _ (.move _) _ _ _ _)) ; first | ((with_reducible apply go_mv_int); rfl; rfl) | ((with_reducible apply go_mv_clo); rfl; rfl))
             | ((with_reducible apply go_as))
             | ((with_reducible (show evOp _ (.load _ _) _ _ _ _)) ; first | ((with_reducible apply go_ld_agg); rfl; rfl; rfl; rfl) | ((with_reducible apply go_load_own); rfl; rfl; rfl; rfl))
             | (((with_reducible apply go_fieldAddr_own); rfl; rfl; rfl))
             | (((with_reducible apply go_cmp); rfl; rfl; rfl; rfl))
             | (((with_reducible apply go_st_agg); rfl; rfl; rfl; rfl; rfl; rfl; rfl)))
           | ((with_reducible (show evOps _ _ _ _ _ _)); first
             | (with_reducible apply go_nil)
             | ((with_reducible apply go_pre); rfl))
           | ((with_reducible (show evG _ _ _ _ _)); first
             | (with_reducible apply go_seq)
             | (with_reducible apply go_region)
             | (((with_reducible apply go_cond); rfl) <;> (intro h; simp only [h]; try simp only [decide_eq_true_eq, decide_eq_false_iff_not, Bool.not_eq_true', Bool.not_eq_false', Bool.not_true, Bool.not_false] at h; try exact absurd trivial h))
             | ((with_reducible apply go_order); kernel_rfl; rfl)
             | (with_reducible apply go_ret)
             | (with_reducible apply go_skipc)
             | (with_reducible apply go_block)
             | (with_reducible apply go_exit))
           | (with_reducible apply go_kseq)
           | (with_reducible apply go_kblock_exit)
           | (with_reducible apply go_kseq_exit)
    · exfalso; omega
    · exact finK_ret (fin_agf (cs := encF5 m) (len := m.levels.length) rfl rfl (by simp [fill_len]) rfl)
end Go.Pv.Soil

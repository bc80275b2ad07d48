import Derived.Test.YtdedpndkohfgbaaProg
import Derived.Test.YtdedpndkohfgbaaQH
import Derived.Test.YtdedpndkohfgbaaQvD
import Derived.KernelRfl
/- Part of the proofs over Ytdedpndkohfgbaa: S22. -/
set_option linter.unusedVariables false
set_option linter.unusedSimpArgs false
set_option linter.unnecessarySimpa false
open Go Go.Proofs Go.Pv
set_option maxHeartbeats 2000000
set_option maxRecDepth 100000
set_option linter.unusedSimpArgs false
set_option linter.unusedVariables false
namespace Go.Pv.Soil

theorem tops {s : List Soil} {b : Boring} (hb : OkBoring s b) {i : Nat} : ∀ {j : Nat} (h : i < j) (hj : j < b.layers.length), b.layers[j].top < (b.layers[i]'(by omega)).top
  | j + 1, h, hj => by
    have h1 := (hb.lay (j + 1) hj).2.2 (by omega)
    by_cases he : i = j
    · subst he; exact h1
    · exact Int.lt_trans h1 (tops hb (j := j) (by omega) (by omega))

/-- The level behind n parts. -/
def lev (f : Int) (l : List Part) : Nat → Int
  | 0 => f
  | i + 1 => match l[i]? with
    | some x => x.bottom
    | none => 0
theorem lev_app {f : Int} {l : List Part} {x : Part} : ∀ {i : Nat}, i ≤ l.length → lev f (l ++ [x]) i = lev f l i
  | 0, _ => rfl
  | i + 1, h => by
    show (match (l ++ [x])[i]? with | some x => x.bottom | none => 0) = _
    rw [List.getElem?_append_left (by omega)]
    rfl
theorem lev_next {f : Int} {l : List Part} {i : Nat} (h : i < l.length) : lev f l (i + 1) = l[i].bottom := by
  show (match l[i]? with | some x => x.bottom | none => 0) = _
  rw [List.getElem?_eq_getElem h]

structure Good (b : Boring) (f t : Int) (l : List Part) (e : Int) : Prop where
  chain : ∀ i (h : i < l.length), l[i].top = lev f l i ∧ l[i].bottom < l[i].top
  last : lev f l l.length = e
  all : ∀ i (h : i < l.length), t ≤ l[i].bottom ∧ l[i].top ≤ f ∧ ∃ k, k < b.layers.length ∧ l[i] = partAt b f t k

def levE (b : Boring) (f t : Int) (n : Nat) : Int := if n = 0 then f else if h : n < b.layers.length then max t (min f b.layers[n].top) else t

theorem part_bds {b : Boring} {f t : Int} {n : Nat} : t ≤ (partAt b f t n).bottom ∧ (partAt b f t n).top ≤ f := by
  simp only [partAt]
  constructor <;> split <;> omega

theorem good_col {s : List Soil} {b : Boring} (hb : OkBoring s b) {f t : Int} (htf : t ≤ f) : ∀ n, n ≤ b.layers.length → Good b f t (colE b f t n) (levE b f t n)
  | 0, _ => ⟨fun i h => absurd h (Nat.not_lt_zero _), rfl, fun i h => absurd h (Nat.not_lt_zero _)⟩
  | n + 1, hn => by
    have ih := good_col hb htf n (by omega)
    have hlt : n < b.layers.length := hn
    have e1 := part_top (f := f) (t := t) hlt
    have e2 := part_bot (b := b) (f := f) (t := t) (i := n)
    have hbd := part_bds (b := b) (f := f) (t := t) (n := n)
    have ht : ∀ h : n + 1 < b.layers.length, b.layers[n + 1].top < b.layers[n].top := fun h => tops hb (by omega) h
    have hE : levE b f t (n + 1) = if h : n + 1 < b.layers.length then max t (min f b.layers[n + 1].top) else t := by
      unfold levE; rw [if_neg (by omega)]
    have hE0 : levE b f t n = if n = 0 then f else max t (min f b.layers[n].top) := by
      unfold levE; rw [dif_pos hlt]
    simp only [colE]
    split
    · rename_i h
      have htop : (partAt b f t n).top = levE b f t n := by
        rw [hE0, e1]
        by_cases h0 : n = 0
        · rw [if_pos h0, if_neg (by omega)]
        · rw [if_neg h0, if_pos (by omega)]
          rw [e1, if_pos (by omega)] at h
          omega
      have hbot : (partAt b f t n).bottom = levE b f t (n + 1) := by
        rw [hE]
        by_cases h1 : n + 1 < b.layers.length
        · rw [e2, dif_pos h1, dif_pos h1]
          rw [e2, dif_pos h1] at h
          omega
        · rw [e2, dif_neg h1, dif_neg h1]
      refine ⟨fun i hi => ?_, ?_, fun i hi => ?_⟩
      · rw [List.length_append, List.length_singleton] at hi
        rw [lev_app (by omega)]
        by_cases he : i = (colE b f t n).length
        · subst he
          simp only [List.getElem_concat_length]
          exact ⟨by rw [htop, ih.last], h⟩
        · rw [List.getElem_append_left (by omega)]
          exact ih.chain i (by omega)
      · rw [List.length_append, List.length_singleton, lev_next (by simp)]
        simp only [List.getElem_concat_length]
        exact hbot
      · rw [List.length_append, List.length_singleton] at hi
        by_cases he : i = (colE b f t n).length
        · subst he
          simp only [List.getElem_concat_length]
          exact ⟨hbd.1, hbd.2, n, hlt, rfl⟩
        · rw [List.getElem_append_left (by omega)]
          exact ih.all i (by omega)
    · rename_i h
      have hsame : levE b f t n = levE b f t (n + 1) := by
        rw [hE, hE0]
        by_cases h1 : n + 1 < b.layers.length
        · have := ht h1
          rw [dif_pos h1]
          rw [e2, dif_pos h1, e1] at h
          by_cases h0 : n = 0
          · rw [if_neg (by omega)] at h
            rw [if_pos h0]; omega
          · rw [if_pos (by omega)] at h
            rw [if_neg h0]; omega
        · rw [dif_neg h1]
          rw [e2, dif_neg h1, e1] at h
          by_cases h0 : n = 0
          · rw [if_neg (by omega)] at h
            rw [if_pos h0]; omega
          · rw [if_pos (by omega)] at h
            rw [if_neg h0]; omega
      rw [← hsame]
      exact ih

theorem part_layer {s : List Soil} {b : Boring} (hb : OkBoring s b) {f t lv : Int} {k : Nat} (hk : k < b.layers.length) (h1 : (partAt b f t k).bottom < lv) (h2 : lv ≤ (partAt b f t k).top) : layerE b lv = k := by
  rw [part_bot] at h1
  rw [part_top hk] at h2
  have hall : ∀ j, k < j → j < b.layers.length → topAt b lv j = false := by
    intro j hj hl
    rw [topAt_at hl]
    have h3 : k + 1 < b.layers.length := by omega
    rw [dif_pos h3] at h1
    by_cases he : j = k + 1
    · subst he; simp; omega
    · have := tops hb (i := k + 1) (j := j) (by omega) hl
      simp; omega
  by_cases h0 : k = 0
  · subst h0
    exact lastE_zero fun j h h' => hall j h h'
  · rw [if_pos (by omega)] at h2
    exact lastE_at hk (by rw [topAt_at hk]; simp; omega) hall

theorem levE_end {s : List Soil} {b : Boring} (hb : OkBoring s b) {f t : Int} : levE b f t b.layers.length = t := by
  have := hb.len
  unfold levE
  rw [if_neg (by omega), dif_neg (by omega)]

theorem col_good {g : Ground} (hg : OkG g) {p : Pt} {f t : Int} (htf : t ≤ f) :
    (∀ i (h : i < (columnE g p f t).length), (columnE g p f t)[i].top = lev f (columnE g p f t) i ∧ (columnE g p f t)[i].bottom < (columnE g p f t)[i].top ∧ t ≤ (columnE g p f t)[i].bottom ∧ (columnE g p f t)[i].top ≤ f ∧ ∀ lv, (columnE g p f t)[i].bottom < lv → lv ≤ (columnE g p f t)[i].top → soilAt g p lv = (columnE g p f t)[i].soil) ∧ lev f (columnE g p f t) (columnE g p f t).length = t := by
  have hn := near_lt (p := p) hg.n.1
  have hb := hg.bor _ hn
  have e : columnE g p f t = colE g.borings[nearE g p] f t g.borings[nearE g p].layers.length := by
    simp only [columnE, List.getElem?_eq_getElem hn]
  rw [e]
  have hG := good_col hb htf g.borings[nearE g p].layers.length (Nat.le_refl _)
  refine ⟨fun i h => ?_, by rw [hG.last, levE_end hb]⟩
  obtain ⟨h1, h2⟩ := hG.chain i h
  obtain ⟨h3, h4, k, hk, hx⟩ := hG.all i h
  refine ⟨h1, h2, h3, h4, fun lv h5 h6 => ?_⟩
  rw [hx] at h5 h6 ⊢
  have hl := part_layer hb hk h5 h6
  simp only [soilAt, List.getElem?_eq_getElem hn, hl, List.getElem?_eq_getElem hk, part_soil hk]

theorem tmod_rng {n m : Int} (hm : 0 < m) : n % m = n.tmod m % m ∧ -m < n.tmod m ∧ n.tmod m < m := by
  refine ⟨?_, ?_, ?_⟩
  · conv => lhs; rw [← Int.tmod_add_mul_tdiv n m]
    rw [Int.add_mul_emod_self_left]
  · have := Int.lt_tmod_of_pos n hm; omega
  · exact Int.tmod_lt_of_pos n hm

theorem c44 (n m : Int) (hm : 0 < m ∧ m ≤ 4611686018427387904) : Contract Try.prog 44 [.int .i64 n, .int .i64 m] (.ret (.int .i64 (n % m))) := by
  obtain ⟨h1, h2, h3⟩ := tmod_rng (n := n) hm.1
  refine contract_of mix Try.func44 rfl rfl (by rw [Try.ntmps44]; exact Nat.le_of_ble_eq_true rfl) ?_; rw [Try.results44, Try.ntmps44]; simp only [argsE, Nat.reduceAdd]
  repeat' first
           | (with_reducible apply go_op)
           | (with_reducible apply go_next)
           | ((with_reducible (show evOp _ _ _ _ _ _)); first
             | (((with_reducible apply go_mv_int); rfl; rfl))
             | ((with_reducible apply go_as))
             | ((with_reducible (show evOp _ (.binOp _ _ _ _ _) _ _ _ _)) ; first | ((with_reducible apply go_cmp); rfl; rfl; rfl; rfl) | ((with_reducible apply go_add); rfl; rfl; rfl; omega) | ((with_reducible apply go_rem); rfl; rfl; rfl; omega)))
           | ((with_reducible (show evOps _ _ _ _ _ _)); first
             | (with_reducible apply go_nil))
           | ((with_reducible (show evG _ _ _ _ _)); first
             | (with_reducible apply go_seq)
             | (with_reducible apply go_region)
             | (((with_reducible apply go_cond); rfl) <;> (intro h; simp only [h]; try simp only [decide_eq_true_eq, decide_eq_false_iff_not, Bool.not_eq_true', Bool.not_eq_false', Bool.not_true, Bool.not_false] at h; try exact absurd trivial h))
             | (with_reducible apply go_ret)
             | (with_reducible apply go_skipc))
           | (with_reducible apply go_kseq)
           | ((with_reducible apply end_int); rfl)
  · first | rw [wrap64 (by omega)] | skip
    rw [h1, ← Int.add_emod_right (n.tmod m) m, Int.emod_eq_of_lt (by omega) (by omega)]
  · rw [h1, Int.emod_eq_of_lt (by omega) (by omega)]

def encAt3 (x : Int × Int × Int) : List D := [.int .i64 x.1, .int .i64 x.2.1, .int .i64 x.2.2]
theorem lv_between {a b c : Int} (ha : lvOK a = true) (hb : lvOK b = true) (h : b ≤ c ∧ c ≤ a) : lvOK c = true := by
  simp only [lvOK, decide_eq_true_eq, Bool.and_eq_true] at ha hb ⊢
  omega
theorem lv_bds {a : Int} (ha : lvOK a = true) : -1000000 ≤ a ∧ a ≤ 1000000 := by
  simp only [lvOK, decide_eq_true_eq, Bool.and_eq_true] at ha
  omega

theorem c9 (g : Ground) (p : Pt) (x : Int × Int × Int) (hx : I64 x.2.2) : Contract Try.prog 9 [.agg (encGround g), .agg (encPt p), .agg (encAt3 x)] (.ret (.bool true)) := by
  obtain ⟨a, b, c⟩ := x
  cases hs : slightE g
  · have h19 : Contract Try.prog 19 [.agg (encGround g)] (.ret (.bool false)) := hs ▸ c19 g
    refine contract_of mix Try.func9 rfl rfl (by rw [Try.ntmps9]; exact Nat.le_of_ble_eq_true rfl) ?_; rw [Try.results9, Try.ntmps9]; simp only [argsE, Nat.reduceAdd]
    repeat' first
           | (with_reducible apply go_op)
           | (with_reducible apply go_next)
           | ((with_reducible (show evOp _ _ _ _ _ _)); first
             | (((with_reducible apply go_mv_bool); rfl; rfl))
             | ((with_reducible apply go_as))
             | (((with_reducible apply go_ld_agg); rfl; rfl; rfl; rfl))
             | ((with_reducible (show evOp _ (.call _) _ _ _ _)) ; first | ((with_reducible apply go_fn_bool); rfl; (exact c18); rfl) | ((with_reducible apply go_fn_bool); rfl; (exact h19); rfl))
             | (((with_reducible apply go_not); rfl; rfl))
             | (((with_reducible apply go_bx_agg); rfl; rfl; (exact Nat.le_of_ble_eq_true rfl); rfl; rfl)))
           | ((with_reducible (show evOps _ _ _ _ _ _)); first
             | (with_reducible apply go_nil))
           | ((with_reducible (show evG _ _ _ _ _)); first
             | (with_reducible apply go_seq)
             | (with_reducible apply go_region)
             | ((with_reducible apply go_cond_t); rfl; rfl)
             | ((with_reducible apply go_cond_f); rfl; rfl)
             | (with_reducible apply go_ret)
             | (with_reducible apply go_skipc))
           | (with_reducible apply go_kseq)
           | (with_reducible apply go_kseq_ret)
           | ((with_reducible apply end_bool); rfl)
           | (with_reducible rfl)
  · have h19 : Contract Try.prog 19 [.agg (encGround g)] (.ret (.bool true)) := hs ▸ c19 g
    obtain ⟨hl, hb⟩ := slight_len hs
    have hl' : g.soils.length < 1000000000000 := by omega
    have hb' : g.borings.length < 1000000000000 := by omega
    have h42 := c42 g hl' hb' p a b
    by_cases h0 : askedE g p [a, b] = 0 ∧ ¬ a < b
    · obtain ⟨h1, h2, h3⟩ := asked0 h0.1
      have hg := okG h1
      have ha := h3 a (by simp)
      have hbb := h3 b (by simp)
      have e42 : columnRE g p a b = (columnE g p a b, 0) := by simp [columnRE, h0.1, h0.2]
      rw [e42] at h42
      obtain ⟨hG, hE⟩ := col_good (p := p) hg (f := a) (t := b) (by omega)
      have h43 : ∀ lv, b ≤ lv ∧ lv ≤ a → Contract Try.prog 43 [.agg (encGround g), .agg (encPt p), .int .i64 lv] (.ret (encSE (soilAt g p lv, 0))) := by
        intro lv hlv
        have := c43 g hl' hb' p lv
        have e : atE g p lv = (soilAt g p lv, 0) := by
          have h4 := lv_between ha hbb hlv
          have e0 : askedE g p [lv] = 0 := by
            unfold askedE
            rw [if_neg (by simp [h1]), if_neg (by simp [h2, h4])]
          simp [atE, e0]
        rw [e] at this; exact this
      refine contract_of mix Try.func9 rfl rfl (by rw [Try.ntmps9]; exact Nat.le_of_ble_eq_true rfl) ?_; rw [Try.results9, Try.ntmps9]; simp only [argsE, Nat.reduceAdd]
      repeat' first
           | (with_reducible apply go_op)
           | (with_reducible apply go_next)
           | ((with_reducible (show evOp _ _ _ _ _ _)); first
             | ((with_reducible (show evOp _ (.move _) _ _ _ _)) ; first | ((with_reducible apply go_mv_int); rfl; rfl) | ((with_reducible apply go_mv_bool); rfl; rfl) | ((with_reducible apply go_mv_os); rfl; rfl) | ((with_reducible apply go_mv_tup); rfl; rfl))
             | ((with_reducible apply go_as))
             | ((with_reducible (show evOp _ (.load _ _) _ _ _ _)) ; first | ((with_reducible apply go_ld_agg); rfl; rfl; rfl; rfl) | ((with_reducible apply go_load_own); rfl; rfl; rfl; rfl))
             | (((with_reducible apply go_index_arr); rfl; rfl; rfl; rfl; omega))
             | (((with_reducible apply go_cmp); rfl; rfl; rfl; rfl))
             | ((with_reducible (show evOp _ (.call _) _ _ _ _)) ; first | ((with_reducible apply go_fn_bool); rfl; (exact c18); rfl) | ((with_reducible apply go_fn_bool); rfl; (exact h19); rfl) | ((with_reducible apply go_fn_fr2); rfl; (exact h42); (exact scalPart); rfl; rfl))
             | (((with_reducible apply go_not); rfl; rfl))
             | (((with_reducible apply go_extract); rfl; rfl))
             | (((with_reducible apply go_bx_agg); rfl; rfl; (exact Nat.le_of_ble_eq_true rfl); rfl; rfl)))
           | ((with_reducible (show evOps _ _ _ _ _ _)); first
             | (with_reducible apply go_nil))
           | ((with_reducible (show evG _ _ _ _ _)); first
             | (with_reducible apply go_seq)
             | (with_reducible apply go_region)
             | ((with_reducible apply go_cond_f); rfl; rfl)
             | (with_reducible apply go_skipc)
             | (with_reducible apply go_block))
           | (with_reducible apply go_kseq)
      refine go_count ((columnE g p a b).length) (fun i => ⟨[(10, .int .i64 i), (9, .int .i64 (lev a (columnE g p a b) i)), (7, .os 480 0 (columnE g p a b).length), (3, .op 0 0 0), (4, .op 32 0 0), (5, .op 64 0 0)], [(0, ⟨2, true, [encGround g]⟩), (32, ⟨2, true, [encPt p]⟩), (64, ⟨3, true, [encAt3 (a, b, c)]⟩), (480, ⟨3, true, (columnE g p a b).map encPart⟩)], 512, 103⟩) (fun i => True) (entails_eq (k := 0) (ns := []) (ks := [10, 9, 7, 3, 4, 5]) [(0, 0), (32, 32), (64, 64), (480, 480)] rfl (by simp) rfl) trivial ?_
      intro i hi hC
      have hlen : (columnE g p a b).length ≤ 12 := by
        have hn := near_lt (p := p) hg.n.1
        have := colE_len g.borings[nearE g p] a b g.borings[nearE g p].layers.length
        have := (hg.bor _ hn).len
        simp only [columnE, List.getElem?_eq_getElem hn]; omega
      by_cases hlt : i < (columnE g p a b).length
      · obtain ⟨q1, q2, q3, q4, q5⟩ := hG i hlt
        have ba := lv_bds ha
        have bb := lv_bds hbb
        have m1 := Int.emod_nonneg c (b := (columnE g p a b)[i].top - (columnE g p a b)[i].bottom) (by omega)
        have m2 := Int.emod_lt_of_pos c (b := (columnE g p a b)[i].top - (columnE g p a b)[i].bottom) (by omega)
        have h44 := c44 c ((columnE g p a b)[i].top - (columnE g p a b)[i].bottom) ⟨by omega, by omega⟩
        have h43' := h43 ((columnE g p a b)[i].top - c % ((columnE g p a b)[i].top - (columnE g p a b)[i].bottom)) ⟨by omega, by omega⟩
        rw [q5 _ (by omega) (by omega)] at h43'
        have q6 := lev_next (f := a) hlt
        clear hE h42 h43 hb hl hb' hl' h19 hs hx h0 h1 h2 h3 hg ha hbb e42
        repeat' first
           | (with_reducible apply go_op)
           | (with_reducible apply go_next)
           | ((with_reducible (show evOp _ _ _ _ _ _)); first
             | ((with_reducible (show evOp _ (.move _) _ _ _ _)) ; first | ((with_reducible apply go_mv_int); rfl; rfl) | ((with_reducible apply go_mv_bool); rfl; rfl) | ((with_reducible apply go_mv_os); rfl; rfl) | ((with_reducible apply go_mv_tup); rfl; rfl) | ((with_reducible apply go_mv_str); rfl; rfl))
             | ((with_reducible apply go_as))
             | ((with_reducible (show evOp _ (.load _ _) _ _ _ _)) ; first | ((with_reducible apply go_load_om); rfl; rfl; rfl; rfl; rotate_left; assumption) | ((with_reducible apply go_ld_agg); rfl; rfl; rfl; rfl) | ((with_reducible apply go_load_own); rfl; rfl; rfl; rfl))
             | (((with_reducible apply go_fieldAddr_own); rfl; rfl; rfl))
             | ((with_reducible (show evOp _ (.indexAddr _ _ _) _ _ _ _)) ; first | ((with_reducible apply go_index_arr); rfl; rfl; rfl; rfl; omega) | ((with_reducible apply go_index_om); rfl; rfl; rfl; (with_reducible rfl); rfl; rfl; omega; (intro hlt)))
             | ((with_reducible (show evOp _ (.binOp _ _ _ _ _) _ _ _ _)) ; first | ((with_reducible apply go_cmp); rfl; rfl; rfl; rfl) | ((with_reducible apply go_add); rfl; rfl; rfl; omega) | ((with_reducible apply go_sub); rfl; rfl; rfl; omega) | ((with_reducible apply go_bin); rfl; rfl))
             | ((with_reducible (show evOp _ (.call _) _ _ _ _)) ; first | ((with_reducible apply go_len_own); rfl; rfl; rfl) | ((with_reducible apply go_fn_int); rfl; (exact h44); rfl) | ((with_reducible apply go_fn_plain); rfl; (exact h43'); rfl; (exact Nat.le_of_ble_eq_true rfl); rfl))
             | (((with_reducible apply go_extract); rfl; rfl))
             | (((with_reducible apply go_pick); rfl; rfl; rfl)))
           | ((with_reducible (show evOps _ _ _ _ _ _)); first
             | (with_reducible apply go_nil)
             | ((with_reducible apply go_run); rfl; rfl)
             | ((with_reducible apply go_pass); rfl; rfl; rfl)
             | (((with_reducible apply go_guard); rfl) <;> (intro h; simp only [h, Bool.not_true, Bool.not_false]; (try with_reducible (refine ⟨rfl, ?_⟩)); try simp only [decide_eq_true_eq, decide_eq_false_iff_not, Bool.not_eq_true', Bool.not_eq_false', Bool.not_true, Bool.not_false] at h; try exact absurd trivial h))
             | ((with_reducible apply go_pre); rfl)
             | (with_reducible apply go_pre_nil)
             | ((with_reducible apply go_suf); rfl)
             | (with_reducible apply go_suf_nil))
           | ((with_reducible (show evG _ _ _ _ _)); first
             | (with_reducible apply go_seq)
             | (with_reducible apply go_region)
             | ((with_reducible apply go_cond_t); rfl; rfl)
             | (((with_reducible apply go_cond); rfl) <;> (intro h; simp only [h]; try simp only [decide_eq_true_eq, decide_eq_false_iff_not, Bool.not_eq_true', Bool.not_eq_false', Bool.not_true, Bool.not_false] at h; try exact absurd trivial h))
             | ((with_reducible apply go_order); kernel_rfl; rfl)
             | (with_reducible apply go_ret)
             | (with_reducible apply go_skipc)
             | (with_reducible apply go_block)
             | (with_reducible apply go_exit))
           | (with_reducible apply go_kseq)
           | (with_reducible apply go_ksuf)
           | (with_reducible apply go_kseq_ret)
           | (with_reducible apply go_kblock)
           | (with_reducible apply go_kblock_ret)
           | (with_reducible apply go_kblock_exit)
           | (with_reducible apply go_kseq_exit)
           | ((with_reducible apply end_bool); rfl)
        all_goals first | (exfalso; omega) | skip
        all_goals first | (refine ⟨hlt, trivial, ?_⟩; rw [q6]; exact entails_eq (k := 0) (ns := []) (ks := [10, 9, 7, 3, 4, 5]) [(0, 0), (32, 32), (64, 64), (480, 480)] rfl (by simp) rfl) | trace_state
      · have e : i = (columnE g p a b).length := by omega
        subst e
        repeat' first
           | (with_reducible apply go_op)
           | (with_reducible apply go_next)
           | ((with_reducible (show evOp _ _ _ _ _ _)); first
             | ((with_reducible (show evOp _ (.move _) _ _ _ _)) ; first | ((with_reducible apply go_mv_int); rfl; rfl) | ((with_reducible apply go_mv_bool); rfl; rfl) | ((with_reducible apply go_mv_os); rfl; rfl))
             | ((with_reducible apply go_as))
             | ((with_reducible (show evOp _ (.load _ _) _ _ _ _)) ; first | ((with_reducible apply go_load_om); rfl; rfl; rfl; rfl; rotate_left; assumption) | ((with_reducible apply go_ld_agg); rfl; rfl; rfl; rfl) | ((with_reducible apply go_load_own); rfl; rfl; rfl; rfl))
             | (((with_reducible apply go_fieldAddr_own); rfl; rfl; rfl))
             | ((with_reducible (show evOp _ (.indexAddr _ _ _) _ _ _ _)) ; first | ((with_reducible apply go_index_arr); rfl; rfl; rfl; rfl; omega) | ((with_reducible apply go_index_om); rfl; rfl; rfl; (with_reducible rfl); rfl; rfl; omega; (intro hlt)))
             | ((with_reducible (show evOp _ (.binOp _ _ _ _ _) _ _ _ _)) ; first | ((with_reducible apply go_cmp); rfl; rfl; rfl; rfl) | ((with_reducible apply go_sub); rfl; rfl; rfl; omega))
             | (((with_reducible apply go_len_own); rfl; rfl; rfl))
             | (((with_reducible apply go_pick); rfl; rfl; rfl)))
           | ((with_reducible (show evOps _ _ _ _ _ _)); first
             | (with_reducible apply go_nil)
             | ((with_reducible apply go_run); rfl; rfl)
             | ((with_reducible apply go_pass); rfl; rfl; rfl)
             | (((with_reducible apply go_guard); rfl) <;> (intro h; simp only [h, Bool.not_true, Bool.not_false]; (try with_reducible (refine ⟨rfl, ?_⟩)); try simp only [decide_eq_true_eq, decide_eq_false_iff_not, Bool.not_eq_true', Bool.not_eq_false', Bool.not_true, Bool.not_false] at h; try exact absurd trivial h))
             | ((with_reducible apply go_pre); rfl))
           | ((with_reducible (show evG _ _ _ _ _)); first
             | (with_reducible apply go_seq)
             | (with_reducible apply go_region)
             | ((with_reducible apply go_cond_t); rfl; rfl)
             | (((with_reducible apply go_cond); rfl) <;> (intro h; simp only [h]; try simp only [decide_eq_true_eq, decide_eq_false_iff_not, Bool.not_eq_true', Bool.not_eq_false', Bool.not_true, Bool.not_false] at h; try exact absurd trivial h))
             | ((with_reducible apply go_order); kernel_rfl; rfl)
             | (with_reducible apply go_ret)
             | (with_reducible apply go_skipc)
             | (with_reducible apply go_block)
             | (with_reducible apply go_exit))
           | (with_reducible apply go_kseq)
           | (with_reducible apply go_kseq_ret)
           | (with_reducible apply go_kblock_ret)
           | (with_reducible apply go_kblock_exit)
           | (with_reducible apply go_kseq_exit)
           | ((with_reducible apply end_bool); rfl)
        all_goals first | (rw [hE]; exact decide_eq_true rfl) | exact absurd ‹_› (by omega)
    · have e42 : ∃ e, e ≠ 0 ∧ columnRE g p a b = ([], e) := by
        unfold columnRE
        by_cases h1 : askedE g p [a, b] = 0
        · rw [if_neg (by simp [h1]), if_pos (by omega)]; exact ⟨9, by decide, rfl⟩
        · rw [if_pos h1]; exact ⟨_, h1, rfl⟩
      obtain ⟨e, he, e42⟩ := e42
      rw [e42] at h42
      refine contract_of mix Try.func9 rfl rfl (by rw [Try.ntmps9]; exact Nat.le_of_ble_eq_true rfl) ?_; rw [Try.results9, Try.ntmps9]; simp only [argsE, Nat.reduceAdd]
      repeat' first
           | (with_reducible apply go_op)
           | (with_reducible apply go_next)
           | ((with_reducible (show evOp _ _ _ _ _ _)); first
             | ((with_reducible (show evOp _ (.move _) _ _ _ _)) ; first | ((with_reducible apply go_mv_int); rfl; rfl) | ((with_reducible apply go_mv_bool); rfl; rfl) | ((with_reducible apply go_mv_os); rfl; rfl) | ((with_reducible apply go_mv_tup); rfl; rfl))
             | ((with_reducible apply go_as))
             | ((with_reducible (show evOp _ (.load _ _) _ _ _ _)) ; first | ((with_reducible apply go_ld_agg); rfl; rfl; rfl; rfl) | ((with_reducible apply go_load_own); rfl; rfl; rfl; rfl))
             | (((with_reducible apply go_index_arr); rfl; rfl; rfl; rfl; omega))
             | (((with_reducible apply go_cmp); rfl; rfl; rfl; rfl))
             | ((with_reducible (show evOp _ (.call _) _ _ _ _)) ; first | ((with_reducible apply go_len_own); rfl; rfl; rfl) | ((with_reducible apply go_fn_bool); rfl; (exact c18); rfl) | ((with_reducible apply go_fn_bool); rfl; (exact h19); rfl) | ((with_reducible apply go_fn_fr2); rfl; (exact h42); (exact scalPart); rfl; rfl))
             | (((with_reducible apply go_not); rfl; rfl))
             | (((with_reducible apply go_extract); rfl; rfl))
             | (((with_reducible apply go_bx_agg); rfl; rfl; (exact Nat.le_of_ble_eq_true rfl); rfl; rfl)))
           | ((with_reducible (show evOps _ _ _ _ _ _)); first
             | (with_reducible apply go_nil))
           | ((with_reducible (show evG _ _ _ _ _)); first
             | (with_reducible apply go_seq)
             | (with_reducible apply go_region)
             | ((with_reducible apply go_cond_f); rfl; rfl)
             | (((with_reducible apply go_cond); rfl) <;> (intro h; simp only [h]; try simp only [decide_eq_true_eq, decide_eq_false_iff_not, Bool.not_eq_true', Bool.not_eq_false', Bool.not_true, Bool.not_false] at h; try exact absurd trivial h))
             | (with_reducible apply go_ret)
             | (with_reducible apply go_skipc)
             | (with_reducible apply go_block))
           | (with_reducible apply go_kseq)
           | (with_reducible apply go_kseq_ret)
           | ((with_reducible apply end_bool); rfl)
      all_goals first | exact absurd ‹e = 0› he | simp
end Go.Pv.Soil

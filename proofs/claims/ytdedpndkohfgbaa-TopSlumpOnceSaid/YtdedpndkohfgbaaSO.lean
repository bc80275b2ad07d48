import Derived.Test.YtdedpndkohfgbaaProg
import Derived.Test.YtdedpndkohfgbaaSN
import Derived.Test.YtdedpndkohfgbaaSX
import Derived.KernelRfl
/- Part of the proofs over Ytdedpndkohfgbaa: S39, S40, S41. -/
set_option linter.unusedVariables false
set_option linter.unusedSimpArgs false
set_option linter.unnecessarySimpa false
open Go Go.Proofs Go.Pv
set_option maxHeartbeats 2000000
set_option maxRecDepth 100000
set_option linter.unusedSimpArgs false
set_option linter.unusedVariables false
namespace Go.Pv.Soil

theorem c178 (l : List Int) (h0 : 0 < l.length) (hl : l.length ≤ 1000000000) : Contract Try.prog 178 [.sl (l.map encInt)] (.ret (.fr 1 (l.map encInt))) := by
  refine contract_of mix Try.func178 rfl rfl (by rw [Try.ntmps178]; exact Nat.le_of_ble_eq_true rfl) ?_; rw [Try.results178, Try.ntmps178]; simp only [argsE, Nat.reduceAdd]
  repeat' first
           | (with_reducible apply go_op)
           | (with_reducible apply go_next)
           | ((with_reducible (show evOp _ _ _ _ _ _)); first
             | ((with_reducible (show evOp _ (.move _) _ _ _ _)) ; first | ((with_reducible apply go_mv_sl); rfl; rfl) | ((with_reducible apply go_mv_nilsl); rfl; rfl))
             | ((with_reducible apply go_as)))
           | ((with_reducible (show evOps _ _ _ _ _ _)); first
             | (with_reducible apply go_nil))
           | ((with_reducible (show ev _ _ _ _)); first
             | (with_reducible apply go_seq)
             | (with_reducible apply go_region))
           | (with_reducible apply go_kseq)
  refine go_nileq_sl (f := encInt) rfl h0 rfl ?_
  repeat' first
           | (with_reducible apply go_op)
           | (with_reducible apply go_next)
           | ((with_reducible (show evOp _ _ _ _ _ _)); first
             | (((with_reducible apply go_mv_sl); rfl; rfl))
             | (((with_reducible apply go_bs0); rfl)))
           | ((with_reducible (show evOps _ _ _ _ _ _)); first
             | (with_reducible apply go_nil))
           | ((with_reducible (show ev _ _ _ _)); first
             | (with_reducible apply go_seq)
             | (with_reducible apply go_region)
             | ((with_reducible apply go_cond_f); rfl; rfl)
             | (with_reducible apply go_skipc))
           | (with_reducible apply go_kseq)
  refine go_app_sl (f := encInt) scalInt rfl rfl rfl (fun _ => rfl) (by kernel_rfl) (by kernel_rfl) hl rfl ?_
  repeat' first
           | (with_reducible apply go_op)
           | (with_reducible apply go_next)
           | ((with_reducible (show evOp _ _ _ _ _ _)); first
             | (((with_reducible apply go_mv_os); rfl; rfl))
             | ((with_reducible apply go_as)))
           | ((with_reducible (show evOps _ _ _ _ _ _)); first
             | (with_reducible apply go_nil))
           | ((with_reducible (show ev _ _ _ _)); first
             | (with_reducible apply go_ret))
           | (with_reducible apply go_kseq)
  exact end_frn rfl rfl rfl rfl

theorem c70 (l : List Int) (hl : l.length ≤ 1000000000) : Contract Try.prog 70 [.sl (l.map encInt)] (.ret (.fr 1 (l.map encInt))) := by
  refine contract_of mix Try.func70 rfl rfl (by rw [Try.ntmps70]; exact Nat.le_of_ble_eq_true rfl) ?_; rw [Try.results70, Try.ntmps70]; simp only [argsE, Nat.reduceAdd]
  repeat' first
           | (with_reducible apply go_op)
           | (with_reducible apply go_next)
           | ((with_reducible (show evOp _ _ _ _ _ _)); first
             | ((with_reducible (show evOp _ (.move _) _ _ _ _)) ; first | ((with_reducible apply go_mv_sl); rfl; rfl) | ((with_reducible apply go_mv_nilsl); rfl; rfl))
             | ((with_reducible apply go_as))
             | (((with_reducible apply go_bs0); rfl)))
           | ((with_reducible (show evOps _ _ _ _ _ _)); first
             | (with_reducible apply go_nil))
           | ((with_reducible (show ev _ _ _ _)); first
             | (with_reducible apply go_seq)
             | (with_reducible apply go_region))
           | (with_reducible apply go_kseq)
  refine go_app_sl (f := encInt) scalInt rfl rfl rfl (fun _ => rfl) (by kernel_rfl) (by kernel_rfl) hl rfl ?_
  repeat' first
           | (with_reducible apply go_op)
           | (with_reducible apply go_next)
           | ((with_reducible (show evOp _ _ _ _ _ _)); first
             | (((with_reducible apply go_mv_os); rfl; rfl))
             | ((with_reducible apply go_as)))
           | ((with_reducible (show evOps _ _ _ _ _ _)); first
             | (with_reducible apply go_nil))
           | ((with_reducible (show ev _ _ _ _)); first
             | (with_reducible apply go_ret))
           | (with_reducible apply go_kseq)
  exact end_frn rfl rfl rfl rfl

/-- A grid's cells without its levels. -/
def encG5 (g : Grid) : List D := [.int .i64 g.x, .int .i64 g.y, .int .i64 g.side, .int .i64 g.cols, .int .i64 g.rows]
theorem c91 (g : Grid) (hl : g.levels.length ≤ 1000000000) : Contract Try.prog 91 [.agg (encGrid g)] (.ret (.agg (encG5 g ++ [.fr 1 (g.levels.map encInt)]))) := by
  refine contract_of mix Try.func91 rfl rfl (by rw [Try.ntmps91]; exact Nat.le_of_ble_eq_true rfl) ?_; rw [Try.results91, Try.ntmps91]; simp only [argsE, Nat.reduceAdd]
  repeat' first
           | (with_reducible apply go_op)
           | (with_reducible apply go_next)
           | ((with_reducible (show evOp _ _ _ _ _ _)); first
             | ((with_reducible (show evOp _ (.load _ _) _ _ _ _)) ; first | ((with_reducible apply go_ld_agg); rfl; rfl; rfl; rfl) | ((with_reducible apply go_load_own); rfl; rfl; rfl; rfl))
             | (((with_reducible apply go_fieldAddr_own); rfl; rfl; rfl))
             | (((with_reducible apply go_fn_fr); rfl; (exact c70 g.levels hl); (exact scalInt); rfl))
             | ((with_reducible (show evOp _ (.store _ _ _) _ _ _ _)) ; first | ((with_reducible apply go_st_agg); rfl; rfl; rfl; rfl; rfl; rfl; rfl) | ((with_reducible apply go_store); rfl; rfl; rfl; rfl; rfl; rfl; (exact Nat.le_of_ble_eq_true rfl); (first | exact Nat.le_of_ble_eq_true rfl | omega); rfl; rfl))
             | (((with_reducible apply go_bx_agg); rfl; rfl; (exact Nat.le_of_ble_eq_true rfl); rfl; rfl))
             | (((with_reducible apply go_alloc); rfl; rfl; rfl)))
           | ((with_reducible (show evOps _ _ _ _ _ _)); first
             | (with_reducible apply go_nil))
           | ((with_reducible (show ev _ _ _ _)); first
             | (with_reducible apply go_seq)
             | (with_reducible apply go_region)
             | (with_reducible apply go_ret))
           | (with_reducible apply go_kseq)
  exact finK_ret (fin_agf (cs := encG5 g) (len := g.levels.length) rfl rfl (by simp) rfl)
end Go.Pv.Soil

open Go Go.Proofs Go.Pv
set_option maxHeartbeats 4000000
set_option maxRecDepth 100000
set_option linter.unusedSimpArgs false
set_option linter.unusedVariables false
namespace Go.Pv.Soil

/-- The numbers of the first cells. -/
def numsL (i : Nat) : List Int := (List.range i).map fun k : Nat => (k : Int)
theorem numsL_len (i : Nat) : (numsL i).length = i := by simp [numsL]
theorem numsL_succ (i : Nat) : numsL (i + 1) = numsL i ++ [(i : Int)] := by simp [numsL, List.range_succ]

def setBlks (g : Ground) (m : Grid) (l P : List Int) : Hp := [(5, ⟨1, true, P.map encInt⟩), (0, ⟨7, true, [encSlopes g m]⟩), (1, ⟨6, true, [encGrid m]⟩), (2, ⟨6, false, [[.int .i64 0, .int .i64 0, .int .i64 0, .int .i64 0, .int .i64 0, .nilsl]]⟩), (3, ⟨6, false, [encG5 m ++ [.os 4 0 m.levels.length]]⟩), (4, ⟨1, true, l.map encInt⟩)]

structure QSt where
  l : List Int
  mv : Int
  P : List Int
  off : Nat

theorem WorkIn.weaken {N : Net} {w : Int} {m l : List Int} {mv : Int} {q : List Int} {i : Nat} {done done' : Nat → Prop} (h : WorkIn N w m l mv q i done) (hd : ∀ c, done' c → done c) : WorkIn N w m l mv q i done' :=
  ⟨h.mid, h.mv, h.qs, h.fits, fun k a b c d => h.own k a b c (hd k d), h.size, h.known⟩

theorem c143 (g : Ground) (hg : OkG g) (m : Grid) (hm : OkGrid m) (h0 : gridE m = 0) (w : Int) (hw : w = -1 ∨ w = 1) : Contract Try.prog 143 [.agg (encSlopes g m), .agg (encGrid m), .int .i64 w] (.ret (.tup [.agg (encG5 m ++ [.fr 1 ((slumpE g m w).map encInt)]), .int .i64 (fallE g m w)])) := by
  have hs := hm.small
  have hcr := mul_bd hm.bds.2.2.1 hm.bds.2.2.2
  have hlen := hm.len
  have hN := netE_ok hg hm m.levels.length
  refine contract_of mix Try.func143 rfl rfl (by rw [Try.ntmps143]; exact Nat.le_of_ble_eq_true rfl) ?_; rw [Try.results143, Try.ntmps143]; simp only [argsE, Nat.reduceAdd]
  repeat' first
           | (with_reducible apply go_op)
           | (with_reducible apply go_next)
           | ((with_reducible (show evOp _ _ _ _ _ _)); first
             | ((with_reducible (show evOp _ (.move _) _ _ _ _)) ; first | ((with_reducible apply go_mv_int); rfl; rfl) | ((with_reducible apply go_mv_nilsl); rfl; rfl))
             | ((with_reducible apply go_as))
             | ((with_reducible (show evOp _ (.load _ _) _ _ _ _)) ; first | ((with_reducible apply go_ld_agg); rfl; rfl; rfl; rfl) | ((with_reducible apply go_load_own); rfl; rfl; rfl; rfl))
             | (((with_reducible apply go_fieldAddr_own); rfl; rfl; rfl))
             | ((with_reducible (show evOp _ (.call _) _ _ _ _)) ; first | ((with_reducible apply go_len_own); rfl; rfl; rfl) | ((with_reducible apply go_fn_fr); rfl; (exact c178 m.levels (by omega) (by omega)); (exact scalInt); rfl))
             | ((with_reducible (show evOp _ (.store _ _ _) _ _ _ _)) ; first | ((with_reducible apply go_st_agg); rfl; rfl; rfl; rfl; rfl; rfl; rfl) | ((with_reducible apply go_store); rfl; rfl; rfl; rfl; rfl; rfl; (exact Nat.le_of_ble_eq_true rfl); (first | exact Nat.le_of_ble_eq_true rfl | omega); rfl; rfl))
             | (((with_reducible apply go_bx_agg); rfl; rfl; (exact Nat.le_of_ble_eq_true rfl); rfl; rfl))
             | (((with_reducible apply go_alloc); rfl; rfl; rfl)))
           | ((with_reducible (show evOps _ _ _ _ _ _)); first
             | (with_reducible apply go_nil))
           | ((with_reducible (show ev _ _ _ _)); first
             | (with_reducible apply go_seq)
             | (with_reducible apply go_region)
             | (with_reducible apply go_block))
           | (with_reducible apply go_kseq)
  refine go_count m.levels.length (fun i => ⟨[(10, .os 5 0 (numsL i).length), (25, .int .i64 i), (24, .int .i64 m.levels.length), (8, .op 3 0 0), (3, .op 0 0 0), (4, .op 1 0 0), (6, .op 2 0 0), (9, .int .i64 0), (2, .int .i64 w)], setBlks g m m.levels (numsL i), 32, 101⟩) (fun _ => True)
    (entails_eq (nx := 32) (k := 1) (ns := [(10, 5)]) (ks := [25, 24, 8, 3, 4, 6, 9, 2]) [(0, 0), (32, 1), (64, 2), (160, 3), (288, 4)] rfl (by simp; rfl) (by kernel_rfl)) trivial ?_
  intro i hi _
  have hnl := numsL_len i
  simp only [setBlks]
  by_cases hlt : i < m.levels.length
  · repeat' first
           | (with_reducible apply go_op)
           | (with_reducible apply go_next)
           | ((with_reducible (show evOp _ _ _ _ _ _)); first
             | ((with_reducible (show evOp _ (.move _) _ _ _ _)) ; first | ((with_reducible apply go_mv_int); rfl; rfl) | ((with_reducible apply go_mv_os); rfl; rfl))
             | ((with_reducible apply go_as))
             | (((with_reducible apply go_cmp); rfl; rfl; rfl; rfl))
             | (((with_reducible apply go_bs1_int); rfl; rfl; rfl)))
           | ((with_reducible (show evOps _ _ _ _ _ _)); first
             | (with_reducible apply go_nil))
           | ((with_reducible (show ev _ _ _ _)); first
             | (with_reducible apply go_seq)
             | (with_reducible apply go_region)
             | (((with_reducible apply go_cond); rfl) <;> (intro h; simp only [h]; try simp only [decide_eq_true_eq, decide_eq_false_iff_not, Bool.not_eq_true', Bool.not_eq_false', Bool.not_true, Bool.not_false] at h; try exact absurd trivial h))
             | (with_reducible apply go_skipc)
             | (with_reducible apply go_block)
             | (with_reducible apply go_exit))
           | (with_reducible apply go_kseq)
           | (with_reducible apply go_kblock_exit)
           | (with_reducible apply go_kseq_exit)
    all_goals try exact absurd hlt (by omega)
    refine go_app_map (f := encInt) (l := numsL i) (a := (i : Int)) scalInt rfl rfl rfl rfl rfl rfl (by kernel_rfl) (by kernel_rfl) (by omega) rfl ?_
    repeat' first
           | (with_reducible apply go_op)
           | (with_reducible apply go_next)
           | ((with_reducible (show evOp _ _ _ _ _ _)); first
             | ((with_reducible (show evOp _ (.move _) _ _ _ _)) ; first | ((with_reducible apply go_mv_int); rfl; rfl) | ((with_reducible apply go_mv_os); rfl; rfl))
             | ((with_reducible apply go_as))
             | (((with_reducible apply go_add); rfl; rfl; rfl; omega)))
           | ((with_reducible (show evOps _ _ _ _ _ _)); first
             | (with_reducible apply go_nil))
           | ((with_reducible (show ev _ _ _ _)); first
             | (with_reducible apply go_region))
           | (with_reducible apply go_kseq)
           | (with_reducible apply go_kblock)
    have el : (numsL i).length + 1 = (numsL (i + 1)).length := by simp [numsL_len]
    rw [← numsL_succ, el]
    exact ⟨hlt, trivial, entails_eq (nx := 32) (k := 1) (ns := []) (ks := [10, 25, 24, 8, 3, 4, 6, 9, 2]) [(5, 5), (0, 0), (1, 1), (2, 2), (3, 3), (4, 4)] rfl (by simp) (by kernel_rfl)⟩
  · have e : i = m.levels.length := by omega
    repeat' first
           | (with_reducible apply go_op)
           | (with_reducible apply go_next)
           | ((with_reducible (show evOp _ _ _ _ _ _)); first
             | ((with_reducible (show evOp _ (.move _) _ _ _ _)) ; first | ((with_reducible apply go_mv_int); rfl; rfl) | ((with_reducible apply go_mv_os); rfl; rfl))
             | ((with_reducible apply go_as))
             | (((with_reducible apply go_cmp); rfl; rfl; rfl; rfl))
             | (((with_reducible apply go_bs1_int); rfl; rfl; rfl)))
           | ((with_reducible (show evOps _ _ _ _ _ _)); first
             | (with_reducible apply go_nil))
           | ((with_reducible (show ev _ _ _ _)); first
             | (with_reducible apply go_seq)
             | (with_reducible apply go_region)
             | (((with_reducible apply go_cond); rfl) <;> (intro h; simp only [h]; try simp only [decide_eq_true_eq, decide_eq_false_iff_not, Bool.not_eq_true', Bool.not_eq_false', Bool.not_true, Bool.not_false] at h; try exact absurd trivial h))
             | (with_reducible apply go_skipc)
             | (with_reducible apply go_block)
             | (with_reducible apply go_exit))
           | (with_reducible apply go_kseq)
           | (with_reducible apply go_kblock_exit)
           | (with_reducible apply go_kseq_exit)
    all_goals try exact absurd hlt (by omega)
    subst e
    have hq : ∀ j, j < m.levels.length → (j : Int) ∈ numsL m.levels.length := fun j hj => by
      simp only [numsL, List.mem_map, List.mem_range]; exact ⟨j, hj, rfl⟩
    have hq' : ∀ x ∈ numsL m.levels.length, ∃ k : Nat, k < m.levels.length ∧ x = k := fun x hx => by
      simp only [numsL, List.mem_map, List.mem_range] at hx
      obtain ⟨k, h1, h2⟩ := hx
      exact ⟨k, h1, h2.symm⟩
    refine go_while (σ := QSt) (fun x => 2 * left w x.l + (x.P.length - x.off)) (fun x => ⟨[(10, .os 5 x.off (x.P.length - x.off)), (9, .int .i64 x.mv), (8, .op 3 0 0), (3, .op 0 0 0), (4, .op 1 0 0), (6, .op 2 0 0), (2, .int .i64 w)], setBlks g m x.l x.P, 32, 101⟩)
      (fun x => x.off ≤ x.P.length ∧ Work (netE g m) w m.levels x.l x.mv (x.P.drop x.off)) ⟨m.levels, 0, numsL m.levels.length, 0⟩
      (entails_eq (nx := 32) (k := 1) (ns := []) (ks := [10, 9, 8, 3, 4, 6, 2]) [(5, 5), (0, 0), (1, 1), (2, 2), (3, 3), (4, 4)] rfl (by simp) (by kernel_rfl)) ⟨by simp, Work.start hm.rng (by rw [List.drop_zero, hnl]; omega) (by rw [List.drop_zero]; exact hq) (by rw [List.drop_zero]; exact hq')⟩ ?_
    rintro ⟨l, mv, P, off⟩ ⟨ho, hW⟩
    simp only [setBlks] at ho hW ⊢
    have hll := hW.mid.below.1
    have hsz := hW.size
    have hlb := left_bd hw hm.rng
    have hdl : (P.drop off).length = P.length - off := by simp
    by_cases hP : off < P.length
    · obtain ⟨k, hk, ek⟩ := hW.qs P[off] (by rw [List.drop_eq_getElem_cons hP]; exact List.mem_cons_self)
      have hcons : P.drop off = (k : Int) :: P.drop (off + 1) := by rw [List.drop_eq_getElem_cons hP, ek]
      have hkl : k < l.length := by omega
      repeat' first
           | (with_reducible apply go_op)
           | (with_reducible apply go_next)
           | ((with_reducible (show evOp _ _ _ _ _ _)); first
             | ((with_reducible (show evOp _ (.move _) _ _ _ _)) ; first | ((with_reducible apply go_mv_int); rfl; rfl) | ((with_reducible apply go_mv_os); rfl; rfl))
             | ((with_reducible apply go_as))
             | ((with_reducible (show evOp _ (.load _ _) _ _ _ _)) ; first | ((with_reducible apply go_ld_agg); rfl; rfl; rfl; rfl) | ((with_reducible apply go_load_own); rfl; rfl; rfl; rfl))
             | (((with_reducible apply go_fieldAddr_own); rfl; rfl; rfl))
             | ((with_reducible (show evOp _ (.binOp _ _ _ _ _) _ _ _ _)) ; first | ((with_reducible apply go_cmp); rfl; rfl; rfl; rfl) | ((with_reducible apply go_mul); rfl; rfl; rfl; omega))
             | (((with_reducible apply go_len_own); rfl; rfl; rfl))
             | (((with_reducible apply go_st_agg); rfl; rfl; rfl; rfl; rfl; rfl; rfl)))
           | ((with_reducible (show evOps _ _ _ _ _ _)); first
             | (with_reducible apply go_nil)
             | (with_reducible apply go_take)
             | (with_reducible apply go_take0))
           | ((with_reducible (show ev _ _ _ _)); first
             | (with_reducible apply go_seq)
             | (with_reducible apply go_region)
             | (((with_reducible apply go_cond); rfl) <;> (intro h; simp only [h]; try simp only [decide_eq_true_eq, decide_eq_false_iff_not, Bool.not_eq_true', Bool.not_eq_false', Bool.not_true, Bool.not_false] at h; try exact absurd trivial h))
             | ((with_reducible apply (go_drawL 8 [[1, 2, 3, 4, 5, 6, 7], []])); decide +kernel; rfl)
             | (with_reducible apply go_ret)
             | (with_reducible apply go_skipc)
             | (with_reducible apply go_block)
             | (with_reducible apply go_exit))
           | (with_reducible apply go_klined)
           | (with_reducible apply go_line_drop)
           | (with_reducible apply go_line_drop0)
           | (with_reducible apply go_line)
           | (with_reducible apply go_line_nil)
           | (with_reducible apply go_kln)
           | (with_reducible apply go_again_nil)
           | ((with_reducible apply go_again); rfl; (intro id'))
           | ((with_reducible apply go_kagain); rfl)
           | (with_reducible apply go_kseq)
           | (with_reducible apply go_kblock_exit)
           | (with_reducible apply go_kseq_exit)
      all_goals try exact absurd hP (by omega)
      refine go_index_oq (f := encInt) (l := P) (i := 0) rfl rfl rfl rfl rfl rfl (by omega) ?_
      intro hlt
      have e0 : P[off + 0] = (k : Int) := ek
      repeat' first
           | (with_reducible apply go_op)
           | (with_reducible apply go_next)
           | ((with_reducible (show evOp _ _ _ _ _ _)); first
             | ((with_reducible (show evOp _ (.move _) _ _ _ _)) ; first | ((with_reducible apply go_mv_int); rfl; rfl) | ((with_reducible apply go_mv_os); rfl; rfl))
             | ((with_reducible apply go_as))
             | (((with_reducible apply go_load_om); rfl; rfl; rfl; rfl; rotate_left; assumption)))
           | ((with_reducible (show evOps _ _ _ _ _ _)); first
             | (with_reducible apply go_nil))
           | ((with_reducible (show ev _ _ _ _)); first
             | (with_reducible apply go_seq)
             | (with_reducible apply go_region))
           | (with_reducible apply go_kseq)
      simp only [e0]
      refine go_drop_os rfl rfl rfl rfl rfl (by omega) ?_
      simp only [show ((1 : Int).toNat) = 1 from rfl]
      have c104k := c104L (gridL m l) (k : Int) (by show 0 ≤ (k : Int) ∧ (k : Int) < l.length; omega) (by show l.length < 1000000000000; omega)
      repeat' first
           | (with_reducible apply go_op)
           | (with_reducible apply go_next)
           | ((with_reducible (show evOp _ _ _ _ _ _)); first
             | ((with_reducible (show evOp _ (.move _) _ _ _ _)) ; first | ((with_reducible apply go_mv_int); rfl; rfl) | ((with_reducible apply go_mv_os); rfl; rfl))
             | ((with_reducible apply go_as))
             | (((with_reducible apply go_ld_agg); rfl; rfl; rfl; rfl))
             | (((with_reducible apply go_fn_bool); (exact purL_agf (cs := encG5 m) rfl (by simp; try assumption) rfl rfl rfl); (exact c104k); rfl))
             | (((with_reducible apply go_not); rfl; rfl)))
           | ((with_reducible (show evOps _ _ _ _ _ _)); first
             | (with_reducible apply go_nil))
           | ((with_reducible (show ev _ _ _ _)); first
             | (with_reducible apply go_seq)
             | (with_reducible apply go_region)
             | (((with_reducible apply go_cond); rfl) <;> (intro h; simp only [h]; try simp only [decide_eq_true_eq, decide_eq_false_iff_not, Bool.not_eq_true', Bool.not_eq_false', Bool.not_true, Bool.not_false] at h; try exact absurd trivial h))
             | (with_reducible apply go_skipc)
             | (with_reducible apply go_exit))
           | (with_reducible apply go_kseq)
           | (with_reducible apply go_kblock_exit)
           | (with_reducible apply go_kseq_exit)
      · have hk0 : lv l k = 30000 := h
        rw [hcons] at hW
        refine ⟨⟨l, mv, P, off + 1⟩, by show 2 * left w l + (P.length - (off + 1)) < 2 * left w l + (P.length - off); omega, ⟨by show off + 1 ≤ P.length; omega, hW.skip hk0⟩, ?_⟩
        exact entails_eq (nx := 32) (k := 1) (ns := []) (ks := [10, 9, 8, 3, 4, 6, 2]) [(5, 5), (0, 0), (1, 1), (2, 2), (3, 3), (4, 4)] rfl (by simp) (by kernel_rfl)
      · have hk0 : lv l k ≠ 30000 := h
        rw [hcons] at hW
        have hWI := hW.enter hk0
        repeat' first
           | (with_reducible apply go_op)
           | (with_reducible apply go_next)
           | ((with_reducible (show evOp _ _ _ _ _ _)); first
             | (((with_reducible apply go_mv_int); rfl; rfl))
             | ((with_reducible (show evOp _ (.call _) _ _ _ _)) ; first | ((with_reducible apply go_len_own); rfl; rfl; rfl) | ((with_reducible apply go_fn_fr); rfl; (exact c105 g m hm h0 k hk); (exact scalInt); rfl)))
           | ((with_reducible (show evOps _ _ _ _ _ _)); first
             | (with_reducible apply go_nil))
           | ((with_reducible (show ev _ _ _ _)); first
             | (with_reducible apply go_block))
           | (with_reducible apply go_kseq)
        have hNm := fun x => nearL_mem m k x m.levels.length
        have hNl := nearL_len m k m.levels.length
        generalize nearL m k m.levels.length = N at *
        refine go_while (σ := QSt × Nat) (fun x => N.length - x.2) (fun x => ⟨[(10, .os 5 x.1.off (x.1.P.length - x.1.off)), (49, .int .i64 x.2), (48, .int .i64 N.length), (47, .os 6 0 N.length), (12, .int .i64 k), (9, .int .i64 x.1.mv), (8, .op 3 0 0), (3, .op 0 0 0), (4, .op 1 0 0), (6, .op 2 0 0), (2, .int .i64 w)], setBlks g m x.1.l x.1.P ++ [(6, ⟨1, true, N.map encInt⟩)], 32, 101⟩)
          (fun x => x.2 ≤ N.length ∧ x.1.off ≤ x.1.P.length ∧ WorkIn (netE g m) w m.levels x.1.l x.1.mv (x.1.P.drop x.1.off) k (fun c => (c : Int) ∈ N.take x.2) ∧ 2 * left w x.1.l + (x.1.P.length - x.1.off) < 2 * left w l + (P.length - off)) ⟨⟨l, mv, P, off + 1⟩, 0⟩
          (entails_eq (nx := 32) (k := 1) (ns := []) (ks := [10, 49, 48, 47, 12, 9, 8, 3, 4, 6, 2]) [(5, 5), (0, 0), (1, 1), (2, 2), (3, 3), (4, 4), (544, 6)] rfl (by simp) (by kernel_rfl))
          ⟨Nat.zero_le _, by show off + 1 ≤ P.length; omega, by simpa using hWI, by show 2 * left w l + (P.length - (off + 1)) < 2 * left w l + (P.length - off); omega⟩ ?_
        clear hW hWI hcons hk0 hdl hsz hll c104k
        generalize 2 * left w l + (P.length - off) = top at *
        rintro ⟨⟨l2, mv2, P2, o2⟩, j⟩ ⟨hj, ho2, hWI, hlt2⟩
        simp only [setBlks] at hj ho2 hWI hlt2 ⊢
        have hll := hWI.mid.below.1
        have hsz := hWI.size
        have hdl : (P2.drop o2).length = P2.length - o2 := by simp
        by_cases hlj : j < N.length
        · obtain ⟨k2, hk2, ek2, hb⟩ := (hNm N[j]).1 (List.getElem_mem hlj)
          have hkl1 : k < l2.length := by omega
          have hkl2 : k2 < l2.length := by omega
          have e1 : lv l2 k = l2[k] := lv_get hkl1
          have e2 : lv l2 k2 = l2[k2] := lv_get hkl2
          have r1 := hWI.mid.rng k hkl1 hWI.known.2
          have r2 := hWI.mid.rng k2 hkl2
          rw [e1] at r1
          have r2' : -20000 ≤ l2[k2] ∧ l2[k2] ≤ 30000 := by rw [e2] at r2; omega
          have al := allowE_bd hg hm k k2
          have hwa : -100000 ≤ w * allowE g m k k2 ∧ w * allowE g m k k2 ≤ 100000 := by rcases hw with rfl | rfl <;> omega
          have hby : -200000 ≤ (l2[k] - w * allowE g m k k2 - l2[k2]) * w ∧ (l2[k] - w * allowE g m k k2 - l2[k2]) * w ≤ 200000 := by rcases hw with rfl | rfl <;> omega
          have hmv : 0 ≤ mv2 ∧ mv2 ≤ 40960000 := by
            have := total_bd hw hWI.mid.below hm.rng hWI.mid.rng
            have := hWI.mv
            omega
          have hdone : ∀ c : Nat, (c : Int) ∈ N.take (j + 1) → (c : Int) ∈ N.take j ∨ c = k2 := fun c hc => by
            rw [List.take_succ_eq_append_getElem hlj] at hc
            rcases List.mem_append.1 hc with hc | hc
            · exact .inl hc
            · simp only [List.mem_singleton] at hc
              exact .inr (by omega)
          have hQ : P2.length - o2 ≤ 1000000000 := by omega
          have c104k : Contract Try.prog 104 [.agg (encGrid (gridL m l2)), .int .i64 k2] (.ret (.bool (!decide (lv l2 k2 = 30000)))) := c104L (gridL m l2) (k2 : Int) (by show 0 ≤ (k2 : Int) ∧ (k2 : Int) < l2.length; omega) (by show l2.length < 1000000000000; omega)
          have c106k := c106 g hg m hm k k2 hk hk2
          repeat' first
           | (with_reducible apply go_op)
           | (with_reducible apply go_next)
           | ((with_reducible (show evOp _ _ _ _ _ _)); first
             | (((with_reducible apply go_mv_int); rfl; rfl))
             | ((with_reducible apply go_as))
             | ((with_reducible (show evOp _ (.load _ _) _ _ _ _)) ; first | ((with_reducible apply go_load_om); rfl; rfl; rfl; rfl; rotate_left; assumption) | ((with_reducible apply go_ld_agg); rfl; rfl; rfl; rfl))
             | (((with_reducible apply go_index_om); rfl; rfl; rfl; (with_reducible rfl); rfl; rfl; omega; (intro hlt)))
             | (((with_reducible apply go_cmp); rfl; rfl; rfl; rfl)))
           | ((with_reducible (show evOps _ _ _ _ _ _)); first
             | (with_reducible apply go_nil))
           | ((with_reducible (show ev _ _ _ _)); first
             | (with_reducible apply go_seq)
             | (with_reducible apply go_region)
             | (((with_reducible apply go_cond); rfl) <;> (intro h; simp only [h]; try simp only [decide_eq_true_eq, decide_eq_false_iff_not, Bool.not_eq_true', Bool.not_eq_false', Bool.not_true, Bool.not_false] at h; try exact absurd trivial h))
             | (with_reducible apply go_skipc)
             | (with_reducible apply go_block)
             | (with_reducible apply go_exit))
           | (with_reducible apply go_kseq)
           | (with_reducible apply go_kblock)
           | (with_reducible apply go_kblock_exit)
           | (with_reducible apply go_kseq_exit)
          all_goals try exact absurd hlj (by omega)
          simp only [ek2]
          repeat' first
           | (with_reducible apply go_op)
           | (with_reducible apply go_next)
           | ((with_reducible (show evOp _ _ _ _ _ _)); first
             | (((with_reducible apply go_mv_int); rfl; rfl))
             | ((with_reducible apply go_as))
             | ((with_reducible (show evOp _ (.load _ _) _ _ _ _)) ; first | ((with_reducible apply go_load_om); rfl; rfl; rfl; rfl; rotate_left; assumption) | ((with_reducible apply go_ld_agg); rfl; rfl; rfl; rfl) | ((with_reducible apply go_load_own); rfl; rfl; rfl; rfl))
             | (((with_reducible apply go_fieldAddr_own); rfl; rfl; rfl))
             | (((with_reducible apply go_index_om); rfl; rfl; rfl; (with_reducible rfl); rfl; rfl; omega; (intro hlt)))
             | ((with_reducible (show evOp _ (.binOp _ _ _ _ _) _ _ _ _)) ; first | ((with_reducible apply go_cmp); rfl; rfl; rfl; rfl) | ((with_reducible apply go_add); rfl; rfl; rfl; omega) | ((with_reducible apply go_sub); rfl; rfl; rfl; omega) | ((with_reducible apply go_mul); rfl; rfl; rfl; omega))
             | ((with_reducible (show evOp _ (.call _) _ _ _ _)) ; first | ((with_reducible apply go_fn_bool); (exact purL_agf (cs := encG5 m) rfl (by simp; try assumption) rfl rfl rfl); (exact c104k); rfl) | ((with_reducible apply go_fn_int); rfl; (exact c106k); rfl))
             | (((with_reducible apply go_not); rfl; rfl)))
           | ((with_reducible (show evOps _ _ _ _ _ _)); first
             | (with_reducible apply go_nil)
             | ((with_reducible apply go_pre); rfl)
             | (with_reducible apply go_pre_nil)
             | ((with_reducible apply go_suf); rfl)
             | (with_reducible apply go_suf_nil))
           | ((with_reducible (show ev _ _ _ _)); first
             | (with_reducible apply go_seq)
             | (with_reducible apply go_region)
             | (((with_reducible apply go_cond); rfl) <;> (intro h; simp only [h]; try simp only [decide_eq_true_eq, decide_eq_false_iff_not, Bool.not_eq_true', Bool.not_eq_false', Bool.not_true, Bool.not_false] at h; try exact absurd trivial h))
             | ((with_reducible apply go_order); kernel_rfl; rfl)
             | (with_reducible apply go_skipc)
             | (with_reducible apply go_exit))
           | (with_reducible apply go_kseq)
           | (with_reducible apply go_ksuf)
           | (with_reducible apply go_kblock)
           | (with_reducible apply go_kblock_exit)
           | (with_reducible apply go_kseq_exit)
          · refine ⟨(⟨l2, mv2, P2, o2⟩, j + 1), by show N.length - (j + 1) < N.length - j; omega, ⟨by show j + 1 ≤ N.length; omega, ho2, (hWI.pass (k := k2) fun hc => absurd h hc).weaken hdone, hlt2⟩, ?_⟩
            exact entails_eq (nx := 32) (k := 1) (ns := []) (ks := [10, 49, 48, 47, 12, 9, 8, 3, 4, 6, 2]) [(5, 5), (0, 0), (1, 1), (2, 2), (3, 3), (4, 4), (6, 6)] rfl (by simp) (by kernel_rfl)
          · have hf : 0 < (lv l2 k - w * (netE g m).d k k2 - lv l2 k2) * w := by rw [e1, e2]; exact h
            have hu : lv l2 k2 ≠ 30000 := by assumption
            have hmove := (hWI.move hw hN hkl2 hb hu hf).weaken hdone
            have hleft := left_step hN hw rfl hWI.mid hkl1 hkl2 hb hWI.known.2 hu hf
            rw [e1, e2] at hmove
            rw [e1] at hleft
            refine go_store_om (f := encInt) (l := l2) (a := l2[k] - w * allowE g m k k2) rfl rfl rfl hkl2 rfl rfl rfl rfl (Nat.le_refl _) rfl ?_
            repeat' first
           | (with_reducible apply go_op)
           | (with_reducible apply go_next)
           | ((with_reducible (show evOp _ _ _ _ _ _)); first
             | ((with_reducible (show evOp _ (.move _) _ _ _ _)) ; first | ((with_reducible apply go_mv_int); rfl; rfl) | ((with_reducible apply go_mv_os); rfl; rfl))
             | ((with_reducible apply go_as))
             | (((with_reducible apply go_add); rfl; rfl; rfl; omega))
             | (((with_reducible apply go_bs1_int); rfl; rfl; rfl)))
           | ((with_reducible (show evOps _ _ _ _ _ _)); first
             | (with_reducible apply go_nil))
           | ((with_reducible (show ev _ _ _ _)); first
             | (with_reducible apply go_seq)
             | (with_reducible apply go_region))
           | (with_reducible apply go_kseq)
            refine go_app_mapq (f := encInt) (l := P2) (a := (k2 : Int)) scalInt rfl rfl rfl (by omega) rfl (by kernel_rfl) (by kernel_rfl) (by kernel_rfl) hQ rfl ?_
            repeat' first
           | (with_reducible apply go_op)
           | (with_reducible apply go_next)
           | ((with_reducible (show evOp _ _ _ _ _ _)); first
             | ((with_reducible (show evOp _ (.move _) _ _ _ _)) ; first | ((with_reducible apply go_mv_int); rfl; rfl) | ((with_reducible apply go_mv_os); rfl; rfl))
             | ((with_reducible apply go_as))
             | (((with_reducible apply go_add); rfl; rfl; rfl; omega)))
           | ((with_reducible (show evOps _ _ _ _ _ _)); first
             | (with_reducible apply go_nil))
           | ((with_reducible (show ev _ _ _ _)); first
             | (with_reducible apply go_region))
           | (with_reducible apply go_kseq)
           | (with_reducible apply go_kblock)
            have el : P2.length - o2 + 1 = (P2.drop o2 ++ [(k2 : Int)]).length - 0 := by simp
            rw [el]
            refine ⟨(⟨l2.set k2 (l2[k] - w * allowE g m k k2), mv2 + (l2[k] - w * allowE g m k k2 - l2[k2]) * w, P2.drop o2 ++ [(k2 : Int)], 0⟩, j + 1), by show N.length - (j + 1) < N.length - j; omega, ⟨by show j + 1 ≤ N.length; omega, Nat.zero_le _, hmove, ?_⟩, ?_⟩
            · show 2 * left w (l2.set k2 (l2[k] - w * allowE g m k k2)) + ((P2.drop o2 ++ [(k2 : Int)]).length - 0) < top
              have hleft' : left w (l2.set k2 (l2[k] - w * allowE g m k k2)) < left w l2 := hleft
              rw [← el]
              omega
            · exact entails_eq (nx := 32) (k := 1) (ns := []) (ks := [10, 49, 48, 47, 12, 9, 8, 3, 4, 6, 2]) [(5, 5), (0, 0), (1, 1), (2, 2), (3, 3), (4, 4), (6, 6)] rfl (by simp) (by kernel_rfl)
          · refine ⟨(⟨l2, mv2, P2, o2⟩, j + 1), by show N.length - (j + 1) < N.length - j; omega, ⟨by show j + 1 ≤ N.length; omega, ho2, (hWI.pass (k := k2) fun _ => ?_).weaken hdone, hlt2⟩, ?_⟩
            · show (lv l2 k - w * allowE g m k k2 - lv l2 k2) * w ≤ 0
              rw [e1, e2]; omega
            · exact entails_eq (nx := 32) (k := 1) (ns := []) (ks := [10, 49, 48, 47, 12, 9, 8, 3, 4, 6, 2]) [(5, 5), (0, 0), (1, 1), (2, 2), (3, 3), (4, 4), (6, 6)] rfl (by simp) (by kernel_rfl)
        · repeat' first
           | (with_reducible apply go_op)
           | (with_reducible apply go_next)
           | ((with_reducible (show evOp _ _ _ _ _ _)); first
             | (((with_reducible apply go_mv_int); rfl; rfl))
             | ((with_reducible apply go_as))
             | ((with_reducible (show evOp _ (.load _ _) _ _ _ _)) ; first | ((with_reducible apply go_load_om); rfl; rfl; rfl; rfl; rotate_left; assumption) | ((with_reducible apply go_ld_agg); rfl; rfl; rfl; rfl))
             | (((with_reducible apply go_index_om); rfl; rfl; rfl; (with_reducible rfl); rfl; rfl; omega; (intro hlt)))
             | (((with_reducible apply go_cmp); rfl; rfl; rfl; rfl)))
           | ((with_reducible (show evOps _ _ _ _ _ _)); first
             | (with_reducible apply go_nil))
           | ((with_reducible (show ev _ _ _ _)); first
             | (with_reducible apply go_seq)
             | (with_reducible apply go_region)
             | (((with_reducible apply go_cond); rfl) <;> (intro h; simp only [h]; try simp only [decide_eq_true_eq, decide_eq_false_iff_not, Bool.not_eq_true', Bool.not_eq_false', Bool.not_true, Bool.not_false] at h; try exact absurd trivial h))
             | (with_reducible apply go_skipc)
             | (with_reducible apply go_block)
             | (with_reducible apply go_exit))
           | (with_reducible apply go_kseq)
           | (with_reducible apply go_kblock)
           | (with_reducible apply go_kblock_exit)
           | (with_reducible apply go_kseq_exit)
          all_goals try exact absurd hlj (by omega)
          refine ⟨⟨l2, mv2, P2, o2⟩, hlt2, ⟨ho2, hWI.leave fun c hc hbc => ?_⟩, ?_⟩
          · rw [List.take_of_length_le (by omega)]
            exact (hNm c).2 ⟨c, by omega, rfl, hbc⟩
          · exact entails_eq (nx := 32) (k := 1) (ns := []) (ks := [10, 9, 8, 3, 4, 6, 2]) [(5, 5), (0, 0), (1, 1), (2, 2), (3, 3), (4, 4)] rfl (by simp) (by kernel_rfl)
    · have hnil : P.drop off = [] := List.drop_eq_nil_of_le (by omega)
      rw [hnil] at hW
      have hgs := hW.done hw hN
      have el := slumpE_eq hg hm hw hgs
      have htb := total_bd hw hW.mid.below hm.rng hW.mid.rng
      have hmv := hW.mv
      have ef : fallE g m w = mv * m.side * m.side := by rw [fallE, ← el, hmv]
      have hsd := hm.bds.2.1
      have m1 := nonneg_mul (a := mv) (b := m.side) (m := 40960000) (n := 10000) (by omega) (by omega)
      have m2 := nonneg_mul (a := mv * m.side) (b := m.side) (m := 409600000000) (n := 10000) (by omega) (by omega)
      repeat' first
           | (with_reducible apply go_op)
           | (with_reducible apply go_next)
           | ((with_reducible (show evOp _ _ _ _ _ _)); first
             | ((with_reducible (show evOp _ (.move _) _ _ _ _)) ; first | ((with_reducible apply go_mv_int); rfl; rfl) | ((with_reducible apply go_mv_os); rfl; rfl))
             | ((with_reducible apply go_as))
             | ((with_reducible (show evOp _ (.load _ _) _ _ _ _)) ; first | ((with_reducible apply go_ld_agg); rfl; rfl; rfl; rfl) | ((with_reducible apply go_load_own); rfl; rfl; rfl; rfl))
             | (((with_reducible apply go_fieldAddr_own); rfl; rfl; rfl))
             | (((with_reducible apply go_index_own); rfl; rfl; rfl; rfl; rfl; omega))
             | ((with_reducible (show evOp _ (.binOp _ _ _ _ _) _ _ _ _)) ; first | ((with_reducible apply go_cmp); rfl; rfl; rfl; rfl) | ((with_reducible apply go_mul); rfl; rfl; rfl; omega))
             | (((with_reducible apply go_len_own); rfl; rfl; rfl))
             | (((with_reducible apply go_st_agg); rfl; rfl; rfl; rfl; rfl; rfl; rfl)))
           | ((with_reducible (show evOps _ _ _ _ _ _)); first
             | (with_reducible apply go_nil)
             | (with_reducible apply go_take)
             | (with_reducible apply go_take0))
           | ((with_reducible (show ev _ _ _ _)); first
             | (with_reducible apply go_seq)
             | (with_reducible apply go_region)
             | (((with_reducible apply go_cond); rfl) <;> (intro h; simp only [h]; try simp only [decide_eq_true_eq, decide_eq_false_iff_not, Bool.not_eq_true', Bool.not_eq_false', Bool.not_true, Bool.not_false] at h; try exact absurd trivial h))
             | ((with_reducible apply (go_drawL 8 [[1, 2, 3, 4, 5, 6, 7], []])); decide +kernel; rfl)
             | (with_reducible apply go_ret)
             | (with_reducible apply go_skipc)
             | (with_reducible apply go_block)
             | (with_reducible apply go_exit))
           | (with_reducible apply go_klined)
           | (with_reducible apply go_line_drop)
           | (with_reducible apply go_line_drop0)
           | (with_reducible apply go_line)
           | (with_reducible apply go_line_nil)
           | (with_reducible apply go_kln)
           | (with_reducible apply go_again_nil)
           | ((with_reducible apply go_again); rfl; (intro id'))
           | ((with_reducible apply go_kagain); rfl)
           | (with_reducible apply go_kseq)
           | (with_reducible apply go_kblock_exit)
           | (with_reducible apply go_kseq_exit)
      all_goals try exact absurd hP (by omega)
      rw [ef, ← el]
      exact finK_ret (fin_agf2 (cs := encG5 m) (len := m.levels.length) rfl rfl (by simp; assumption) rfl rfl rfl)
end Go.Pv.Soil

open Go Go.Proofs Go.Pv
set_option maxHeartbeats 2000000
set_option maxRecDepth 100000
set_option linter.unusedSimpArgs false
set_option linter.unusedVariables false
namespace Go.Pv.Soil

/-- The bed to which a bed slumps or heaps, the volume, and the error. -/
noncomputable def slumpR (g : Ground) (m : Grid) (w : Int) : Grid × Int × Int := if griddedE g [m] = 0 then (gridL m (slumpE g m w), fallE g m w, 0) else (zeroG, 0, griddedE g [m])
theorem slumpR_ok {g : Ground} {m : Grid} {w : Int} (h : griddedE g [m] = 0) : slumpR g m w = (gridL m (slumpE g m w), fallE g m w, 0) := if_pos h
theorem slumpR_bad {g : Ground} {m : Grid} {w : Int} (h : griddedE g [m] ≠ 0) : slumpR g m w = (zeroG, 0, griddedE g [m]) := if_neg h

theorem c90 (g : Ground) (hs : g.soils.length < 1000000000000) (hbl : g.borings.length < 1000000000000) (m : Grid) (hl : m.levels.length < 1000000000000) (w : Int) (hw : w = -1 ∨ w = 1) :
    Contract Try.prog 90 [.agg (encGround g), .agg (encGrid m), .int .i64 w] (.ret (.tup [.agg (encG5 (slumpR g m w).1 ++ [.fr 1 ((slumpR g m w).1.levels.map encInt)]), .int .i64 (slumpR g m w).2.1, .int .i64 (slumpR g m w).2.2])) := by
  have h93 := c93 g hs hbl [m] (by simp) (by simpa using hl)
  by_cases h : griddedE g [m] = 0
  · obtain ⟨h1, h2⟩ := gridded1 h
    have hm := okGrid h2
    have hg := okG h1
    have hgs := slumpE_gs hg hm hw
    rw [slumpR_ok h]
    rw [h] at h93
    refine contract_of mix Try.func90 rfl rfl (by rw [Try.ntmps90]; exact Nat.le_of_ble_eq_true rfl) ?_; rw [Try.results90, Try.ntmps90]; simp only [argsE, Nat.reduceAdd]
    repeat' first
           | (with_reducible apply go_op)
           | (with_reducible apply go_next)
           | ((with_reducible (show evOp _ _ _ _ _ _)); first
             | ((with_reducible (show evOp _ (.move _) _ _ _ _)) ; first | ((with_reducible apply go_mv_int); rfl; rfl) | ((with_reducible apply go_mv_tup); rfl; rfl))
             | ((with_reducible apply go_as))
             | (((with_reducible apply go_ld_agg); rfl; rfl; rfl; rfl))
             | (((with_reducible apply go_cmp); rfl; rfl; rfl; rfl))
             | ((with_reducible (show evOp _ (.call _) _ _ _ _)) ; first | ((with_reducible apply go_fn_int); rfl; (exact h93); rfl) | ((with_reducible apply (go_fn_agf (cs := encGrid m))); rfl; (exact c94 g hg hs m hm h2); (exact scalInt); rfl; rfl; rfl; rfl; rfl) | ((with_reducible apply (go_fn_agf2 (cs := encG5 m))); (exact purL_agf (cs := encGrid m) rfl (by simp) rfl rfl rfl); (exact c143 g hg m hm h2 w hw); (exact scalInt); rfl; rfl; rfl; rfl; rfl; rfl))
             | (((with_reducible apply go_st_agg); rfl; rfl; rfl; rfl; rfl; rfl; rfl))
             | (((with_reducible apply go_extract); rfl; rfl))
             | (((with_reducible apply go_bd1_agg); rfl; rfl; rfl; rfl))
             | (((with_reducible apply go_bx_agg); rfl; rfl; (exact Nat.le_of_ble_eq_true rfl); rfl; rfl))
             | (((with_reducible apply go_alloc); rfl; rfl; rfl))
             | (((with_reducible apply go_bs1_agg); rfl; rfl; rfl; rfl; rfl; rfl)))
           | ((with_reducible (show evOps _ _ _ _ _ _)); first
             | (with_reducible apply go_nil)
             | (with_reducible apply go_take)
             | (with_reducible apply go_take0))
           | ((with_reducible (show ev _ _ _ _)); first
             | (with_reducible apply go_seq)
             | (with_reducible apply go_region)
             | ((with_reducible apply go_cond_f); rfl; rfl)
             | ((with_reducible apply (go_drawL 11 [[9], []])); decide +kernel; rfl)
             | (with_reducible apply go_ret)
             | (with_reducible apply go_skipc))
           | (with_reducible apply go_klined)
           | (with_reducible apply go_line_drop)
           | (with_reducible apply go_line_drop0)
           | (with_reducible apply go_line)
           | (with_reducible apply go_line_nil)
           | (with_reducible apply go_kln)
           | (with_reducible apply go_again_nil)
           | ((with_reducible apply go_again); rfl; (intro id'))
           | ((with_reducible apply go_kagain); rfl)
           | (with_reducible apply go_kseq)
    all_goals first
      | exact absurd rfl ‹_›
      | exact finK_ret (fin_agf3 (cs := encG5 m) (len := (slumpE g m w).length) rfl rfl (by simp [gridL]) rfl rfl rfl rfl rfl)
      | trace_state
  · have hge := h
    rw [slumpR_bad h]
    generalize griddedE g [m] = ge at *
    refine contract_of mix Try.func90 rfl rfl (by rw [Try.ntmps90]; exact Nat.le_of_ble_eq_true rfl) ?_; rw [Try.results90, Try.ntmps90]; simp only [argsE, Nat.reduceAdd]
    repeat' first
           | (with_reducible apply go_op)
           | (with_reducible apply go_next)
           | ((with_reducible (show evOp _ _ _ _ _ _)); first
             | (((with_reducible apply go_mv_int); rfl; rfl))
             | ((with_reducible apply go_as))
             | (((with_reducible apply go_ld_agg); rfl; rfl; rfl; rfl))
             | (((with_reducible apply go_cmp); rfl; rfl; rfl; rfl))
             | (((with_reducible apply go_fn_int); rfl; (exact h93); rfl))
             | (((with_reducible apply go_st_agg); rfl; rfl; rfl; rfl; rfl; rfl; rfl))
             | ((with_reducible (show evOp _ (.build _ _) _ _ _ _)) ; first | ((with_reducible apply go_bd1_agg); rfl; rfl; rfl; rfl) | ((with_reducible apply go_build); rfl; rfl))
             | (((with_reducible apply go_bx_agg); rfl; rfl; (exact Nat.le_of_ble_eq_true rfl); rfl; rfl))
             | (((with_reducible apply go_alloc); rfl; rfl; rfl))
             | (((with_reducible apply go_bs1_agg); rfl; rfl; rfl; rfl; rfl; rfl)))
           | ((with_reducible (show evOps _ _ _ _ _ _)); first
             | (with_reducible apply go_nil)
             | (with_reducible apply go_take))
           | ((with_reducible (show ev _ _ _ _)); first
             | (with_reducible apply go_seq)
             | (with_reducible apply go_region)
             | (((with_reducible apply go_cond); rfl) <;> (intro h; simp only [h]; try simp only [decide_eq_true_eq, decide_eq_false_iff_not, Bool.not_eq_true', Bool.not_eq_false', Bool.not_true, Bool.not_false] at h; try exact absurd trivial h))
             | ((with_reducible apply (go_drawL 11 [[9], []])); decide +kernel; rfl)
             | (with_reducible apply go_ret)
             | (with_reducible apply go_skipc))
           | (with_reducible apply go_kseq)
           | (with_reducible apply go_kseq_ret)
    all_goals first
      | exact absurd ‹ge = 0› hge
      | exact finK_ret (fin_agn3 (cs := encG5 zeroG) rfl rfl rfl rfl rfl rfl)
      | trace_state

theorem c25 (g : Ground) (hs : g.soils.length < 1000000000000) (hbl : g.borings.length < 1000000000000) (m : Grid) (hl : m.levels.length < 1000000000000) :
    Contract Try.prog 25 [.agg (encGround g), .agg (encGrid m)] (.ret (.tup [.agg (encG5 (slumpR g m (-1)).1 ++ [.fr 1 ((slumpR g m (-1)).1.levels.map encInt)]), .int .i64 (slumpR g m (-1)).2.1, .int .i64 (slumpR g m (-1)).2.2])) := by
  have h90 := c90 g hs hbl m hl (-1) (.inl rfl)
  generalize slumpR g m (-1) = R at *
  refine contract_of mix Try.func25 rfl rfl (by rw [Try.ntmps25]; exact Nat.le_of_ble_eq_true rfl) ?_; rw [Try.results25, Try.ntmps25]; simp only [argsE, Nat.reduceAdd]
  repeat' first
           | (with_reducible apply go_op)
           | (with_reducible apply go_next)
           | ((with_reducible (show evOp _ _ _ _ _ _)); first
             | (((with_reducible apply go_mv_int); rfl; rfl))
             | ((with_reducible apply go_as))
             | (((with_reducible apply go_ld_agg); rfl; rfl; rfl; rfl))
             | (((with_reducible apply (go_fn_agf3 (cs := encG5 R.1))); rfl; (exact h90); (exact scalInt); rfl; rfl; rfl; rfl; rfl; rfl; rfl))
             | (((with_reducible apply go_st_agg); rfl; rfl; rfl; rfl; rfl; rfl; rfl))
             | (((with_reducible apply go_extract); rfl; rfl))
             | (((with_reducible apply go_bx_agg); rfl; rfl; (exact Nat.le_of_ble_eq_true rfl); rfl; rfl))
             | (((with_reducible apply go_alloc); rfl; rfl; rfl)))
           | ((with_reducible (show evOps _ _ _ _ _ _)); first
             | (with_reducible apply go_nil))
           | ((with_reducible (show ev _ _ _ _)); first
             | (with_reducible apply go_seq)
             | (with_reducible apply go_region)
             | (with_reducible apply go_ret))
           | (with_reducible apply go_kseq)
  exact finK_ret (fin_agf3 (cs := encG5 R.1) (len := R.1.levels.length) rfl rfl (by simp) rfl rfl rfl rfl rfl)
theorem c26 (g : Ground) (hs : g.soils.length < 1000000000000) (hbl : g.borings.length < 1000000000000) (m : Grid) (hl : m.levels.length < 1000000000000) :
    Contract Try.prog 26 [.agg (encGround g), .agg (encGrid m)] (.ret (.tup [.agg (encG5 (slumpR g m 1).1 ++ [.fr 1 ((slumpR g m 1).1.levels.map encInt)]), .int .i64 (slumpR g m 1).2.1, .int .i64 (slumpR g m 1).2.2])) := by
  have h90 := c90 g hs hbl m hl 1 (.inr rfl)
  generalize slumpR g m 1 = R at *
  refine contract_of mix Try.func26 rfl rfl (by rw [Try.ntmps26]; exact Nat.le_of_ble_eq_true rfl) ?_; rw [Try.results26, Try.ntmps26]; simp only [argsE, Nat.reduceAdd]
  repeat' first
           | (with_reducible apply go_op)
           | (with_reducible apply go_next)
           | ((with_reducible (show evOp _ _ _ _ _ _)); first
             | (((with_reducible apply go_mv_int); rfl; rfl))
             | ((with_reducible apply go_as))
             | (((with_reducible apply go_ld_agg); rfl; rfl; rfl; rfl))
             | (((with_reducible apply (go_fn_agf3 (cs := encG5 R.1))); rfl; (exact h90); (exact scalInt); rfl; rfl; rfl; rfl; rfl; rfl; rfl))
             | (((with_reducible apply go_st_agg); rfl; rfl; rfl; rfl; rfl; rfl; rfl))
             | (((with_reducible apply go_extract); rfl; rfl))
             | (((with_reducible apply go_bx_agg); rfl; rfl; (exact Nat.le_of_ble_eq_true rfl); rfl; rfl))
             | (((with_reducible apply go_alloc); rfl; rfl; rfl)))
           | ((with_reducible (show evOps _ _ _ _ _ _)); first
             | (with_reducible apply go_nil))
           | ((with_reducible (show ev _ _ _ _)); first
             | (with_reducible apply go_seq)
             | (with_reducible apply go_region)
             | (with_reducible apply go_ret))
           | (with_reducible apply go_kseq)
  exact finK_ret (fin_agf3 (cs := encG5 R.1) (len := R.1.levels.length) rfl rfl (by simp) rfl rfl rfl rfl rfl)
end Go.Pv.Soil

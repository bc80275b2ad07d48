import Derived.Test.YtbojgmhpmcnfjaaProg
import Derived.Test.YtbojgmhpmcnfjaaVAE
import Derived.KernelRfl
import Derived.Test.YtbojgmhpmcnfjaaVAD
import Derived.Shelf.SlLaysF0
/- Part of the proofs over Ytbojgmhpmcnfjaa: H2, H3, H10, H11, H12, H13, H14, H16, JD, JE, JF, JG, JH, JI, H4, JO, JQ, H7, JS, MI, JK, JP, JLT, JT. -/
set_option linter.unusedVariables false
set_option linter.unusedSimpArgs false
set_option linter.unnecessarySimpa false
open Go Go.Proofs Go.Pv
set_option maxHeartbeats 4000000
set_option maxRecDepth 100000
set_option linter.unusedSimpArgs false
set_option linter.unusedVariables false
namespace Go.Pv.Geo
def encT3 (a b c : Pt) : List D := [.int .i64 a.x, .int .i64 a.y, .int .i64 b.x, .int .i64 b.y, .int .i64 c.x, .int .i64 c.y]
def pre3 (u v w : Int) : Nat → List D
  | 0 => [.int .i64 0, .int .i64 0, .int .i64 0]
  | 1 => [.int .i64 u, .int .i64 0, .int .i64 0]
  | 2 => [.int .i64 u, .int .i64 v, .int .i64 0]
  | _ => [.int .i64 u, .int .i64 v, .int .i64 w]
def nrm (a d : Pt) : Int := (a.x - d.x) * (a.x - d.x) + (a.y - d.y) * (a.y - d.y)
def crs (b c d : Pt) : Int := (b.x - d.x) * (c.y - d.y) - (c.x - d.x) * (b.y - d.y)
def detE (a b c d : Pt) : Int := 0 + nrm a d * crs b c d + nrm b d * crs c a d + nrm c d * crs a b d
def detP (u v w : Int) : Nat → Int
  | 0 => 0
  | 1 => 0 + u
  | 2 => 0 + u + v
  | _ => 0 + u + v + w
def nearE (a d : Pt) : Prop := (-20000 ≤ a.x - d.x ∧ a.x - d.x ≤ 20000) ∧ -20000 ≤ a.y - d.y ∧ a.y - d.y ≤ 20000
theorem mulN {u v : Int} (hu : -20000 ≤ u ∧ u ≤ 20000) (hv : -20000 ≤ v ∧ v ≤ 20000) : -400000000 ≤ u * v ∧ u * v ≤ 400000000 := by
  have := mul_abs hu hv; omega
theorem nrm_bd {a d : Pt} (h : nearE a d) : -800000000 ≤ nrm a d ∧ nrm a d ≤ 800000000 := by
  have h1 := mulN h.1 h.1
  have h2 := mulN h.2 h.2
  unfold nrm; omega
theorem crs_bd {b c d : Pt} (h : nearE b d) (h' : nearE c d) : -800000000 ≤ crs b c d ∧ crs b c d ≤ 800000000 := by
  have h1 := mulN h.1 h'.2
  have h2 := mulN h'.1 h.2
  unfold crs; omega
theorem term_bd {a b c d : Pt} (ha : nearE a d) (hb : nearE b d) (hc : nearE c d) : -640000000000000000 ≤ nrm a d * crs b c d ∧ nrm a d * crs b c d ≤ 640000000000000000 := by
  have := mul_abs (nrm_bd ha) (crs_bd hb hc); omega
theorem c_circle (a b c d : Pt) (ka : ptOK a = true) (kb : ptOK b = true) (kc : ptOK c = true) (kd : ptOK d = true) (ha : nearE a d) (hb : nearE b d) (hc : nearE c d) : Contract Try.prog 76 [.agg (encT3 a b c), .agg (encPt d)] (.ret (.int .i64 (signE (detE a b c d)))) := by
  have t1 := term_bd ha hb hc
  have t2 := term_bd hb hc ha
  have t3 := term_bd hc ha hb
  have n1 := nrm_bd ha
  have n2 := nrm_bd hb
  have n3 := nrm_bd hc
  have m1 := mulN ha.1 ha.1
  have m2 := mulN hb.1 hb.1
  have m3 := mulN hc.1 hc.1
  have m4 := mulN ha.2 ha.2
  have m5 := mulN hb.2 hb.2
  have m6 := mulN hc.2 hc.2
  have x1 := mulN hb.1 hc.2
  have x2 := mulN hc.1 hb.2
  have x3 := mulN hc.1 ha.2
  have x4 := mulN ha.1 hc.2
  have x5 := mulN ha.1 hb.2
  have x6 := mulN hb.1 ha.2
  have k1 := pt_bd ka
  have k2 := pt_bd kb
  have k3 := pt_bd kc
  have k4 := pt_bd kd
  refine contract_of mix Try.func76 rfl rfl (by rw [Try.ntmps76]; exact Nat.le_of_ble_eq_true rfl) ?_; rw [Try.results76, Try.ntmps76]; simp only [argsE, Nat.reduceAdd]
  repeat' first
           | (with_reducible apply go_op)
           | (with_reducible apply go_next)
           | ((with_reducible (show evOp _ _ _ _ _ _)); first
             | (((with_reducible apply go_mv_int); rfl; rfl))
             | ((with_reducible apply go_as))
             | (((with_reducible apply go_ld_agg); rfl; rfl; rfl; rfl))
             | (((with_reducible apply go_bx_agg); rfl; rfl; (exact Nat.le_of_ble_eq_true rfl); rfl; rfl))
             | (((with_reducible apply go_alloc); rfl; rfl; rfl)))
           | ((with_reducible (show evOps _ _ _ _ _ _)); first
             | (with_reducible apply go_nil))
           | ((with_reducible (show evG _ _ _ _ _)); first
             | (with_reducible apply go_seq)
             | (with_reducible apply go_region)
             | (with_reducible apply go_block))
           | (with_reducible apply go_kseq)
  refine go_count 3 (fun i => ⟨[(15, .int .i64 i), (14, .agg (encT3 a b c)), (7, .op 4 0 0), (6, .op 3 0 0), (5, .op 2 0 0), (3, .op 1 0 0)], [(4, ⟨3, true, [pre3 (nrm a d) (nrm b d) (nrm c d) i]⟩), (3, ⟨3, true, [pre3 (a.y - d.y) (b.y - d.y) (c.y - d.y) i]⟩), (2, ⟨3, true, [pre3 (a.x - d.x) (b.x - d.x) (c.x - d.x) i]⟩), (1, ⟨2, true, [encPt d]⟩)], 32, 84⟩) (fun _ => True)
    (entails_eq (nx := 32) (k := 0) (ns := []) (ks := [15, 14, 7, 6, 5, 3]) [(160, 4), (128, 3), (96, 2), (32, 1)] rfl (by simp) (by kernel_rfl)) trivial ?_
  intro i hi hC
  have hc3 : i = 0 ∨ i = 1 ∨ i = 2 ∨ i = 3 := by omega
  rcases hc3 with rfl | rfl | rfl | rfl
  · repeat' first
           | (with_reducible apply go_op)
           | (with_reducible apply go_next)
           | ((with_reducible (show evOp _ _ _ _ _ _)); first
             | (((with_reducible apply go_mv_int); rfl; rfl))
             | ((with_reducible apply go_as))
             | (((with_reducible apply go_load_own); rfl; rfl; rfl; rfl))
             | (((with_reducible apply go_fieldAddr_own); rfl; rfl; rfl))
             | (((with_reducible apply go_index_arr); rfl; rfl; rfl; rfl; omega))
             | ((with_reducible (show evOp _ (.binOp _ _ _ _ _) _ _ _ _)) ; first | ((with_reducible apply go_cmp); rfl; rfl; rfl; rfl) | ((with_reducible apply go_add); rfl; rfl; rfl; omega) | ((with_reducible apply go_sub); rfl; rfl; rfl; omega) | ((with_reducible apply go_mul); rfl; rfl; rfl; omega))
             | ((with_reducible (show evOp _ (.store _ _ _) _ _ _ _)) ; first | ((with_reducible apply go_st_agg); rfl; rfl; rfl; rfl; rfl; rfl; rfl) | ((with_reducible apply go_store); rfl; rfl; rfl; rfl; rfl; rfl; (exact Nat.le_of_ble_eq_true rfl); (first | exact Nat.le_of_ble_eq_true rfl | omega); rfl; rfl))
             | (((with_reducible apply go_index_agg); rfl; rfl; rfl; omega; rfl))
             | (((with_reducible apply go_alloc); rfl; rfl; rfl)))
           | ((with_reducible (show evOps _ _ _ _ _ _)); first
             | (with_reducible apply go_nil)
             | ((with_reducible apply go_pre); rfl)
             | ((with_reducible apply go_pre_stop); rfl)
             | ((with_reducible apply go_suf); rfl)
             | ((with_reducible apply go_suf_stop); rfl)
             | (with_reducible apply go_take)
             | (with_reducible apply go_take0))
           | ((with_reducible (show evG _ _ _ _ _)); first
             | (with_reducible apply go_seq)
             | (with_reducible apply go_region)
             | ((with_reducible apply go_cond_t); rfl; rfl)
             | ((with_reducible apply (go_drawL 13 [[1, 7, 8, 9, 10, 11], [], []])); decide +kernel; rfl)
             | ((with_reducible apply go_order); kernel_rfl; rfl)
             | (with_reducible apply go_skipc)
             | (with_reducible apply go_block))
           | (with_reducible apply go_klined)
           | (with_reducible apply go_line_drop)
           | (with_reducible apply go_line_drop0)
           | (with_reducible apply go_line)
           | (with_reducible apply go_line_nil)
           | (with_reducible apply go_kln)
           | (with_reducible apply go_again_nil)
           | ((with_reducible apply go_again); rfl; (intro id'))
           | ((with_reducible apply go_kagain); rfl)
           | (with_reducible apply go_kseq)
           | (with_reducible apply go_ksuf)
           | (with_reducible apply go_kblock)
    refine ⟨by omega, trivial, entails_eq (nx := 32) (k := 0) (ns := []) (ks := [15, 14, 7, 6, 5, 3]) [(4, 4), (3, 3), (2, 2), (1, 1)] rfl (by simp) (by kernel_rfl)⟩
  · repeat' first
           | (with_reducible apply go_op)
           | (with_reducible apply go_next)
           | ((with_reducible (show evOp _ _ _ _ _ _)); first
             | (((with_reducible apply go_mv_int); rfl; rfl))
             | ((with_reducible apply go_as))
             | (((with_reducible apply go_load_own); rfl; rfl; rfl; rfl))
             | (((with_reducible apply go_fieldAddr_own); rfl; rfl; rfl))
             | (((with_reducible apply go_index_arr); rfl; rfl; rfl; rfl; omega))
             | ((with_reducible (show evOp _ (.binOp _ _ _ _ _) _ _ _ _)) ; first | ((with_reducible apply go_cmp); rfl; rfl; rfl; rfl) | ((with_reducible apply go_add); rfl; rfl; rfl; omega) | ((with_reducible apply go_sub); rfl; rfl; rfl; omega) | ((with_reducible apply go_mul); rfl; rfl; rfl; omega))
             | ((with_reducible (show evOp _ (.store _ _ _) _ _ _ _)) ; first | ((with_reducible apply go_st_agg); rfl; rfl; rfl; rfl; rfl; rfl; rfl) | ((with_reducible apply go_store); rfl; rfl; rfl; rfl; rfl; rfl; (exact Nat.le_of_ble_eq_true rfl); (first | exact Nat.le_of_ble_eq_true rfl | omega); rfl; rfl))
             | (((with_reducible apply go_index_agg); rfl; rfl; rfl; omega; rfl))
             | (((with_reducible apply go_alloc); rfl; rfl; rfl)))
           | ((with_reducible (show evOps _ _ _ _ _ _)); first
             | (with_reducible apply go_nil)
             | ((with_reducible apply go_pre); rfl)
             | ((with_reducible apply go_pre_stop); rfl)
             | ((with_reducible apply go_suf); rfl)
             | ((with_reducible apply go_suf_stop); rfl)
             | (with_reducible apply go_take)
             | (with_reducible apply go_take0))
           | ((with_reducible (show evG _ _ _ _ _)); first
             | (with_reducible apply go_seq)
             | (with_reducible apply go_region)
             | ((with_reducible apply go_cond_t); rfl; rfl)
             | ((with_reducible apply (go_drawL 13 [[1, 7, 8, 9, 10, 11], [], []])); decide +kernel; rfl)
             | ((with_reducible apply go_order); kernel_rfl; rfl)
             | (with_reducible apply go_skipc)
             | (with_reducible apply go_block))
           | (with_reducible apply go_klined)
           | (with_reducible apply go_line_drop)
           | (with_reducible apply go_line_drop0)
           | (with_reducible apply go_line)
           | (with_reducible apply go_line_nil)
           | (with_reducible apply go_kln)
           | (with_reducible apply go_again_nil)
           | ((with_reducible apply go_again); rfl; (intro id'))
           | ((with_reducible apply go_kagain); rfl)
           | (with_reducible apply go_kseq)
           | (with_reducible apply go_ksuf)
           | (with_reducible apply go_kblock)
    refine ⟨by omega, trivial, entails_eq (nx := 32) (k := 0) (ns := []) (ks := [15, 14, 7, 6, 5, 3]) [(4, 4), (3, 3), (2, 2), (1, 1)] rfl (by simp) (by kernel_rfl)⟩
  · repeat' first
           | (with_reducible apply go_op)
           | (with_reducible apply go_next)
           | ((with_reducible (show evOp _ _ _ _ _ _)); first
             | (((with_reducible apply go_mv_int); rfl; rfl))
             | ((with_reducible apply go_as))
             | (((with_reducible apply go_load_own); rfl; rfl; rfl; rfl))
             | (((with_reducible apply go_fieldAddr_own); rfl; rfl; rfl))
             | (((with_reducible apply go_index_arr); rfl; rfl; rfl; rfl; omega))
             | ((with_reducible (show evOp _ (.binOp _ _ _ _ _) _ _ _ _)) ; first | ((with_reducible apply go_cmp); rfl; rfl; rfl; rfl) | ((with_reducible apply go_add); rfl; rfl; rfl; omega) | ((with_reducible apply go_sub); rfl; rfl; rfl; omega) | ((with_reducible apply go_mul); rfl; rfl; rfl; omega))
             | ((with_reducible (show evOp _ (.store _ _ _) _ _ _ _)) ; first | ((with_reducible apply go_st_agg); rfl; rfl; rfl; rfl; rfl; rfl; rfl) | ((with_reducible apply go_store); rfl; rfl; rfl; rfl; rfl; rfl; (exact Nat.le_of_ble_eq_true rfl); (first | exact Nat.le_of_ble_eq_true rfl | omega); rfl; rfl))
             | (((with_reducible apply go_index_agg); rfl; rfl; rfl; omega; rfl))
             | (((with_reducible apply go_alloc); rfl; rfl; rfl)))
           | ((with_reducible (show evOps _ _ _ _ _ _)); first
             | (with_reducible apply go_nil)
             | ((with_reducible apply go_pre); rfl)
             | ((with_reducible apply go_pre_stop); rfl)
             | ((with_reducible apply go_suf); rfl)
             | ((with_reducible apply go_suf_stop); rfl)
             | (with_reducible apply go_take)
             | (with_reducible apply go_take0))
           | ((with_reducible (show evG _ _ _ _ _)); first
             | (with_reducible apply go_seq)
             | (with_reducible apply go_region)
             | ((with_reducible apply go_cond_t); rfl; rfl)
             | ((with_reducible apply (go_drawL 13 [[1, 7, 8, 9, 10, 11], [], []])); decide +kernel; rfl)
             | ((with_reducible apply go_order); kernel_rfl; rfl)
             | (with_reducible apply go_skipc)
             | (with_reducible apply go_block))
           | (with_reducible apply go_klined)
           | (with_reducible apply go_line_drop)
           | (with_reducible apply go_line_drop0)
           | (with_reducible apply go_line)
           | (with_reducible apply go_line_nil)
           | (with_reducible apply go_kln)
           | (with_reducible apply go_again_nil)
           | ((with_reducible apply go_again); rfl; (intro id'))
           | ((with_reducible apply go_kagain); rfl)
           | (with_reducible apply go_kseq)
           | (with_reducible apply go_ksuf)
           | (with_reducible apply go_kblock)
    refine ⟨by omega, trivial, entails_eq (nx := 32) (k := 0) (ns := []) (ks := [15, 14, 7, 6, 5, 3]) [(4, 4), (3, 3), (2, 2), (1, 1)] rfl (by simp) (by kernel_rfl)⟩
  · repeat' first
           | (with_reducible apply go_op)
           | (with_reducible apply go_next)
           | ((with_reducible (show evOp _ _ _ _ _ _)); first
             | (((with_reducible apply go_mv_int); rfl; rfl))
             | ((with_reducible apply go_as))
             | (((with_reducible apply go_cmp); rfl; rfl; rfl; rfl)))
           | ((with_reducible (show evOps _ _ _ _ _ _)); first
             | (with_reducible apply go_nil))
           | ((with_reducible (show evG _ _ _ _ _)); first
             | (with_reducible apply go_seq)
             | (with_reducible apply go_region)
             | ((with_reducible apply go_cond_f); rfl; rfl)
             | (with_reducible apply go_block)
             | (with_reducible apply go_exit))
           | (with_reducible apply go_kseq)
           | (with_reducible apply go_kblock_exit)
           | (with_reducible apply go_kseq_exit)
    refine go_count 3 (fun i => ⟨[(51, .int .i64 i), (10, .int .i64 (detP (nrm a d * crs b c d) (nrm b d * crs c a d) (nrm c d * crs a b d) i)), (7, .op 4 0 0), (6, .op 3 0 0), (5, .op 2 0 0)], [(4, ⟨3, true, [pre3 (nrm a d) (nrm b d) (nrm c d) 3]⟩), (3, ⟨3, true, [pre3 (a.y - d.y) (b.y - d.y) (c.y - d.y) 3]⟩), (2, ⟨3, true, [pre3 (a.x - d.x) (b.x - d.x) (c.x - d.x) 3]⟩)], 32, 84⟩) (fun _ => True)
      (entails_eq (nx := 32) (k := 0) (ns := []) (ks := [51, 10, 7, 6, 5]) [(4, 4), (3, 3), (2, 2)] rfl (by simp) (by kernel_rfl)) trivial ?_
    have d0 : detP (nrm a d * crs b c d) (nrm b d * crs c a d) (nrm c d * crs a b d) 0 = 0 := rfl
    have d1 : detP (nrm a d * crs b c d) (nrm b d * crs c a d) (nrm c d * crs a b d) 1 = nrm a d * ((b.x - d.x) * (c.y - d.y) - (c.x - d.x) * (b.y - d.y)) := Int.zero_add _
    have d2 : detP (nrm a d * crs b c d) (nrm b d * crs c a d) (nrm c d * crs a b d) 2 = nrm a d * ((b.x - d.x) * (c.y - d.y) - (c.x - d.x) * (b.y - d.y)) + nrm b d * ((c.x - d.x) * (a.y - d.y) - (a.x - d.x) * (c.y - d.y)) := by
      show 0 + _ + _ = _
      rw [Int.zero_add]; rfl
    simp only [crs] at t1 t2 t3
    intro i hi hC
    have hc3 : i = 0 ∨ i = 1 ∨ i = 2 ∨ i = 3 := by omega
    rcases hc3 with rfl | rfl | rfl | rfl
    · repeat' first
           | (with_reducible apply go_op)
           | (with_reducible apply go_next)
           | ((with_reducible (show evOp _ _ _ _ _ _)); first
             | (((with_reducible apply go_mv_int); rfl; rfl))
             | ((with_reducible apply go_as))
             | (((with_reducible apply go_load_own); rfl; rfl; rfl; rfl))
             | (((with_reducible apply go_index_arr); rfl; rfl; rfl; rfl; omega))
             | ((with_reducible (show evOp _ (.binOp _ _ _ _ _) _ _ _ _)) ; first | ((with_reducible apply go_cmp); rfl; rfl; rfl; rfl) | ((with_reducible apply go_add); rfl; rfl; rfl; omega) | ((with_reducible apply go_sub); rfl; rfl; rfl; omega) | ((with_reducible apply go_mul); rfl; rfl; rfl; omega) | ((with_reducible apply go_rem_pos); rfl; rfl; rfl; omega)))
           | ((with_reducible (show evOps _ _ _ _ _ _)); first
             | (with_reducible apply go_nil)
             | (with_reducible apply go_take)
             | (with_reducible apply go_take0)
             | (with_reducible apply go_drop)
             | (with_reducible apply go_drop0))
           | ((with_reducible (show evG _ _ _ _ _)); first
             | (with_reducible apply go_seq)
             | (with_reducible apply go_region)
             | ((with_reducible apply go_cond_t); rfl; rfl)
             | ((with_reducible apply (go_drawM 21)); decide +kernel; rfl)
             | (with_reducible apply go_skipc)
             | (with_reducible apply go_block))
           | (with_reducible apply go_kseq)
           | (with_reducible apply go_kblock)
           | (with_reducible apply go_kdrop)
      refine ⟨by omega, trivial, entails_eq (nx := 32) (k := 0) (ns := []) (ks := [51, 10, 7, 6, 5]) [(4, 4), (3, 3), (2, 2)] rfl (by simp) (by kernel_rfl)⟩
    · repeat' first
           | (with_reducible apply go_op)
           | (with_reducible apply go_next)
           | ((with_reducible (show evOp _ _ _ _ _ _)); first
             | (((with_reducible apply go_mv_int); rfl; rfl))
             | ((with_reducible apply go_as))
             | (((with_reducible apply go_load_own); rfl; rfl; rfl; rfl))
             | (((with_reducible apply go_index_arr); rfl; rfl; rfl; rfl; omega))
             | ((with_reducible (show evOp _ (.binOp _ _ _ _ _) _ _ _ _)) ; first | ((with_reducible apply go_cmp); rfl; rfl; rfl; rfl) | ((with_reducible apply go_add); rfl; rfl; rfl; omega) | ((with_reducible apply go_sub); rfl; rfl; rfl; omega) | ((with_reducible apply go_mul); rfl; rfl; rfl; omega) | ((with_reducible apply go_rem_pos); rfl; rfl; rfl; omega)))
           | ((with_reducible (show evOps _ _ _ _ _ _)); first
             | (with_reducible apply go_nil)
             | (with_reducible apply go_take)
             | (with_reducible apply go_take0)
             | (with_reducible apply go_drop)
             | (with_reducible apply go_drop0))
           | ((with_reducible (show evG _ _ _ _ _)); first
             | (with_reducible apply go_seq)
             | (with_reducible apply go_region)
             | ((with_reducible apply go_cond_t); rfl; rfl)
             | ((with_reducible apply (go_drawM 21)); decide +kernel; rfl)
             | (with_reducible apply go_skipc)
             | (with_reducible apply go_block))
           | (with_reducible apply go_kseq)
           | (with_reducible apply go_kblock)
           | (with_reducible apply go_kdrop)
      refine ⟨by omega, trivial, entails_eq (nx := 32) (k := 0) (ns := []) (ks := [51, 10, 7, 6, 5]) [(4, 4), (3, 3), (2, 2)] rfl (by simp) (by kernel_rfl)⟩
    · repeat' first
           | (with_reducible apply go_op)
           | (with_reducible apply go_next)
           | ((with_reducible (show evOp _ _ _ _ _ _)); first
             | (((with_reducible apply go_mv_int); rfl; rfl))
             | ((with_reducible apply go_as))
             | (((with_reducible apply go_load_own); rfl; rfl; rfl; rfl))
             | (((with_reducible apply go_index_arr); rfl; rfl; rfl; rfl; omega))
             | ((with_reducible (show evOp _ (.binOp _ _ _ _ _) _ _ _ _)) ; first | ((with_reducible apply go_cmp); rfl; rfl; rfl; rfl) | ((with_reducible apply go_add); rfl; rfl; rfl; omega) | ((with_reducible apply go_sub); rfl; rfl; rfl; omega) | ((with_reducible apply go_mul); rfl; rfl; rfl; omega) | ((with_reducible apply go_rem_pos); rfl; rfl; rfl; omega)))
           | ((with_reducible (show evOps _ _ _ _ _ _)); first
             | (with_reducible apply go_nil)
             | (with_reducible apply go_take)
             | (with_reducible apply go_take0)
             | (with_reducible apply go_drop)
             | (with_reducible apply go_drop0))
           | ((with_reducible (show evG _ _ _ _ _)); first
             | (with_reducible apply go_seq)
             | (with_reducible apply go_region)
             | ((with_reducible apply go_cond_t); rfl; rfl)
             | ((with_reducible apply (go_drawM 21)); decide +kernel; rfl)
             | (with_reducible apply go_skipc)
             | (with_reducible apply go_block))
           | (with_reducible apply go_kseq)
           | (with_reducible apply go_kblock)
           | (with_reducible apply go_kdrop)
      refine ⟨by omega, trivial, entails_eq (nx := 32) (k := 0) (ns := []) (ks := [51, 10, 7, 6, 5]) [(4, 4), (3, 3), (2, 2)] rfl (by simp) (by kernel_rfl)⟩
    · repeat' first
           | (with_reducible apply go_op)
           | (with_reducible apply go_next)
           | ((with_reducible (show evOp _ _ _ _ _ _)); first
             | (((with_reducible apply go_mv_int); rfl; rfl))
             | ((with_reducible apply go_as))
             | (((with_reducible apply go_cmp); rfl; rfl; rfl; rfl))
             | (((with_reducible apply go_fn_int); rfl; (exact c_compare0 _); rfl)))
           | ((with_reducible (show evOps _ _ _ _ _ _)); first
             | (with_reducible apply go_nil))
           | ((with_reducible (show evG _ _ _ _ _)); first
             | (with_reducible apply go_seq)
             | (with_reducible apply go_region)
             | ((with_reducible apply go_cond_f); rfl; rfl)
             | (with_reducible apply go_ret)
             | (with_reducible apply go_exit))
           | (with_reducible apply go_kseq)
           | (with_reducible apply go_kblock_exit)
           | (with_reducible apply go_kseq_exit)
           | ((with_reducible apply end_int); rfl)
      all_goals rfl
end Go.Pv.Geo

open Go Go.Proofs Go.Pv
set_option maxHeartbeats 4000000
set_option maxRecDepth 100000
set_option linter.unusedSimpArgs false
set_option linter.unusedVariables false
namespace Go.Pv.Geo
def farP (p q : Pt) : Bool := decide (20000 < p.x - q.x ∨ 20000 < p.y - q.y)
/-- Are some of the points too far from each other? -/
def farL (l : List Pt) : Bool := l.any fun p => l.any fun q => farP p q
theorem farL_yes {l : List Pt} {i k : Nat} (hi : i < l.length) (hk : k < l.length) (h : farP l[i] l[k] = true) : farL l = true :=
  List.any_eq_true.2 ⟨_, List.getElem_mem hi, List.any_eq_true.2 ⟨_, List.getElem_mem hk, h⟩⟩
theorem farL_no {l : List Pt} (h : ∀ i (hi : i < l.length), ∀ k (hk : k < l.length), farP l[i] l[k] = false) : farL l = false := by
  simp only [farL, List.any_eq_false]
  intro p hp
  obtain ⟨i, hi, rfl⟩ := List.mem_iff_getElem.1 hp
  simp only [List.any_eq_true, not_exists, not_and]
  intro q hq
  obtain ⟨k, hk, rfl⟩ := List.mem_iff_getElem.1 hq
  rw [h i hi k hk]; simp
theorem c_apart (l : List Pt) (hl : l.length < 1000000000000) (hok : ∀ p ∈ l, ptOK p = true) : Contract Try.prog 74 [.sl (l.map encPt)] (.ret (.bool (farL l))) := by
  refine contract_of mix Try.func74 rfl rfl (by rw [Try.ntmps74]; exact Nat.le_of_ble_eq_true rfl) ?_; rw [Try.results74, Try.ntmps74]; simp only [argsE, Nat.reduceAdd]
  repeat' first
           | (with_reducible apply go_op)
           | (with_reducible apply go_next)
           | ((with_reducible (show evOp _ _ _ _ _ _)); first
             | ((with_reducible (show evOp _ (.move _) _ _ _ _)) ; first | ((with_reducible apply go_mv_int); rfl; rfl) | ((with_reducible apply go_mv_bool); rfl; rfl) | ((with_reducible apply go_mv_sl); rfl; rfl))
             | ((with_reducible apply go_as))
             | (((with_reducible apply go_len); rfl; rfl)))
           | ((with_reducible (show evOps _ _ _ _ _ _)); first
             | (with_reducible apply go_nil))
           | ((with_reducible (show evG _ _ _ _ _)); first
             | (with_reducible apply go_seq)
             | (with_reducible apply go_region)
             | (with_reducible apply go_block))
           | (with_reducible apply go_kseq)
  refine go_count (l.length) (fun i => ⟨[(9, .int .i64 i), (8, .int .i64 l.length), (7, .sl (l.map encPt)), (0, .sl (l.map encPt))], [], 0, 35⟩) (fun i => ∀ j (hj : j < i) (hj' : j < l.length), ∀ k (hk : k < l.length), farP l[j] l[k] = false) (entails_eq (k := 0) (ns := []) (ks := [9, 8, 7, 0]) [] rfl (by simp) rfl) (by omega) ?_
  intro i hi hC
  repeat' first
           | (with_reducible apply go_op)
           | (with_reducible apply go_next)
           | ((with_reducible (show evOp _ _ _ _ _ _)); first
             | ((with_reducible (show evOp _ (.move _) _ _ _ _)) ; first | ((with_reducible apply go_mv_int); rfl; rfl) | ((with_reducible apply go_mv_bool); rfl; rfl) | ((with_reducible apply go_mv_sl); rfl; rfl))
             | ((with_reducible apply go_as))
             | (((with_reducible apply go_ld_ptr); rfl; rfl; rfl))
             | (((with_reducible apply go_index_nat); rfl; rfl; (with_reducible rfl); (intro; rfl); rfl; omega; (intro hlt)))
             | (((with_reducible apply go_cmp); rfl; rfl; rfl; rfl))
             | (((with_reducible apply go_len); rfl; rfl))
             | (((with_reducible apply go_st_agg); rfl; rfl; rfl; rfl; rfl; rfl; rfl))
             | (((with_reducible apply go_alloc); rfl; rfl; rfl)))
           | ((with_reducible (show evOps _ _ _ _ _ _)); first
             | (with_reducible apply go_nil))
           | ((with_reducible (show evG _ _ _ _ _)); first
             | (with_reducible apply go_seq)
             | (with_reducible apply go_region)
             | (((with_reducible apply go_cond); rfl) <;> (intro h; simp only [h]; try simp only [decide_eq_true_eq, decide_eq_false_iff_not, Bool.not_eq_true', Bool.not_eq_false', Bool.not_true, Bool.not_false] at h; try exact absurd trivial h))
             | (with_reducible apply go_ret)
             | (with_reducible apply go_skipc)
             | (with_reducible apply go_block)
             | (with_reducible apply go_exit))
           | (with_reducible apply go_kseq)
           | (with_reducible apply go_kblock_exit)
           | (with_reducible apply go_kseq_exit)
           | ((with_reducible apply end_bool); rfl)
  · have h2 : i < l.length := by omega
    refine go_count l.length (fun k => ⟨[(15, .int .i64 k), (14, .int .i64 l.length), (13, .sl (l.map encPt)), (4, .op 0 0 0), (9, .int .i64 i), (8, .int .i64 l.length), (7, .sl (l.map encPt)), (0, .sl (l.map encPt))], [(0, ⟨2, true, [encPt l[i]]⟩)], 32, 35⟩) (fun k => ∀ j (hj : j < k) (hj' : j < l.length), farP l[i] l[j] = false)
      (entails_eq (nx := 32) (k := 0) (ns := []) (ks := [15, 14, 13, 4, 9, 8, 7, 0]) [(96, 0)] rfl (by simp) (by kernel_rfl)) (by omega) ?_
    intro k hk hC2
    have b1 := pt_bd (hok _ (List.getElem_mem h2))
    by_cases h3 : k < l.length
    · have b2 := pt_bd (hok _ (List.getElem_mem h3))
      repeat' first
           | (with_reducible apply go_op)
           | (with_reducible apply go_next)
           | ((with_reducible (show evOp _ _ _ _ _ _)); first
             | ((with_reducible (show evOp _ (.move _) _ _ _ _)) ; first | ((with_reducible apply go_mv_int); rfl; rfl) | ((with_reducible apply go_mv_bool); rfl; rfl))
             | ((with_reducible apply go_as))
             | ((with_reducible (show evOp _ (.load _ _) _ _ _ _)) ; first | ((with_reducible apply go_ld_ptr); rfl; rfl; rfl) | ((with_reducible apply go_load_own); rfl; rfl; rfl; rfl))
             | (((with_reducible apply go_fieldAddr_own); rfl; rfl; rfl))
             | (((with_reducible apply go_index_nat); rfl; rfl; (with_reducible rfl); (intro; rfl); rfl; omega; (intro hlt)))
             | ((with_reducible (show evOp _ (.binOp _ _ _ _ _) _ _ _ _)) ; first | ((with_reducible apply go_cmp); rfl; rfl; rfl; rfl) | ((with_reducible apply go_add); rfl; rfl; rfl; omega) | ((with_reducible apply go_sub); rfl; rfl; rfl; omega))
             | (((with_reducible apply go_st_agg); rfl; rfl; rfl; rfl; rfl; rfl; rfl))
             | (((with_reducible apply go_pick); rfl; rfl; rfl))
             | (((with_reducible apply go_alloc); rfl; rfl; rfl)))
           | ((with_reducible (show evOps _ _ _ _ _ _)); first
             | (with_reducible apply go_nil)
             | ((with_reducible apply go_run); rfl; rfl)
             | ((with_reducible apply go_pass); rfl; rfl; rfl)
             | (((with_reducible apply go_guard); rfl) <;> (intro h; simp only [h, Bool.not_true, Bool.not_false]; (try with_reducible (refine ⟨rfl, ?_⟩)); try simp only [decide_eq_true_eq, decide_eq_false_iff_not, Bool.not_eq_true', Bool.not_eq_false', Bool.not_true, Bool.not_false] at h; try exact absurd trivial h)))
           | ((with_reducible (show evG _ _ _ _ _)); first
             | (with_reducible apply go_seq)
             | (with_reducible apply go_region)
             | ((with_reducible apply go_cond_t); rfl; rfl)
             | (((with_reducible apply go_cond); rfl) <;> (intro h; simp only [h]; try simp only [decide_eq_true_eq, decide_eq_false_iff_not, Bool.not_eq_true', Bool.not_eq_false', Bool.not_true, Bool.not_false] at h; try exact absurd trivial h))
             | (with_reducible apply go_ret)
             | (with_reducible apply go_skipc)
             | (with_reducible apply go_block)
             | (with_reducible apply go_exit))
           | (with_reducible apply go_kseq)
           | (with_reducible apply go_kseq_ret)
           | (with_reducible apply go_kblock)
           | (with_reducible apply go_kblock_ret)
           | (with_reducible apply go_kblock_exit)
           | (with_reducible apply go_kseq_exit)
           | ((with_reducible apply end_bool); rfl)
      · exact (farL_yes h2 h3 (by simp only [farP, decide_eq_true_eq]; omega)).symm
      · refine ⟨h3, fun j hj hj' => ?_, entails_eq (nx := 32) (k := 0) (ns := []) (ks := [15, 14, 13, 4, 9, 8, 7, 0]) [(0, 0)] rfl (by simp) (by kernel_rfl)⟩
        rcases Nat.lt_succ_iff_lt_or_eq.1 hj with h' | rfl
        · exact hC2 j h' hj'
        · simp only [farP, decide_eq_false_iff_not]; omega
      · exact (farL_yes h2 h3 (by simp only [farP, decide_eq_true_eq]; omega)).symm
      · omega
    · repeat' first
           | (with_reducible apply go_op)
           | (with_reducible apply go_next)
           | ((with_reducible (show evOp _ _ _ _ _ _)); first
             | ((with_reducible (show evOp _ (.move _) _ _ _ _)) ; first | ((with_reducible apply go_mv_int); rfl; rfl) | ((with_reducible apply go_mv_bool); rfl; rfl))
             | ((with_reducible apply go_as))
             | ((with_reducible (show evOp _ (.load _ _) _ _ _ _)) ; first | ((with_reducible apply go_ld_ptr); rfl; rfl; rfl) | ((with_reducible apply go_load_own); rfl; rfl; rfl; rfl))
             | (((with_reducible apply go_fieldAddr_own); rfl; rfl; rfl))
             | (((with_reducible apply go_index_nat); rfl; rfl; (with_reducible rfl); (intro; rfl); rfl; omega; (intro hlt)))
             | ((with_reducible (show evOp _ (.binOp _ _ _ _ _) _ _ _ _)) ; first | ((with_reducible apply go_cmp); rfl; rfl; rfl; rfl) | ((with_reducible apply go_add); rfl; rfl; rfl; omega) | ((with_reducible apply go_sub); rfl; rfl; rfl; omega))
             | (((with_reducible apply go_st_agg); rfl; rfl; rfl; rfl; rfl; rfl; rfl))
             | (((with_reducible apply go_pick); rfl; rfl; rfl))
             | (((with_reducible apply go_alloc); rfl; rfl; rfl)))
           | ((with_reducible (show evOps _ _ _ _ _ _)); first
             | (with_reducible apply go_nil)
             | ((with_reducible apply go_run); rfl; rfl)
             | ((with_reducible apply go_pass); rfl; rfl; rfl)
             | (((with_reducible apply go_guard); rfl) <;> (intro h; simp only [h, Bool.not_true, Bool.not_false]; (try with_reducible (refine ⟨rfl, ?_⟩)); try simp only [decide_eq_true_eq, decide_eq_false_iff_not, Bool.not_eq_true', Bool.not_eq_false', Bool.not_true, Bool.not_false] at h; try exact absurd trivial h)))
           | ((with_reducible (show evG _ _ _ _ _)); first
             | (with_reducible apply go_seq)
             | (with_reducible apply go_region)
             | ((with_reducible apply go_cond_t); rfl; rfl)
             | (((with_reducible apply go_cond); rfl) <;> (intro h; simp only [h]; try simp only [decide_eq_true_eq, decide_eq_false_iff_not, Bool.not_eq_true', Bool.not_eq_false', Bool.not_true, Bool.not_false] at h; try exact absurd trivial h))
             | (with_reducible apply go_ret)
             | (with_reducible apply go_skipc)
             | (with_reducible apply go_block)
             | (with_reducible apply go_exit))
           | (with_reducible apply go_kseq)
           | (with_reducible apply go_kseq_ret)
           | (with_reducible apply go_kblock)
           | (with_reducible apply go_kblock_ret)
           | (with_reducible apply go_kblock_exit)
           | (with_reducible apply go_kseq_exit)
           | ((with_reducible apply end_bool); rfl)
      · exact absurd ‹k < l.length› h3
      · exact absurd ‹k < l.length› h3
      · exact absurd ‹k < l.length› h3
      · refine ⟨h2, fun j hj hj' => ?_, entails_eq (k := 0) (ns := []) (ks := [9, 8, 7, 0]) [] rfl (by simp) rfl⟩
        rcases Nat.lt_succ_iff_lt_or_eq.1 hj with h' | rfl
        · exact hC j h' hj'
        · exact fun k' hk' => hC2 k' (by omega) hk'
  · exact (farL_no fun j hj k hk => hC j (by omega) hj k hk).symm
end Go.Pv.Geo

open Go Go.Proofs Go.Pv
set_option maxHeartbeats 4000000
set_option maxRecDepth 100000
set_option linter.unusedSimpArgs false
set_option linter.unusedVariables false
namespace Go.Pv.Geo
/-- The corner with a number, counted on from the first one. -/
def cornerP (l : List Pt) (i : Nat) : Pt := l.getD (i % l.length) ⟨0, 0⟩
theorem cornerP_get {l : List Pt} (h : 0 < l.length) (i : Nat) : cornerP l i = l[i % l.length]'(Nat.mod_lt _ h) := by
  simp [cornerP, List.getD_eq_getElem?_getD, Nat.mod_lt _ h]
theorem cornerP_mem {l : List Pt} (h : 0 < l.length) (i : Nat) : cornerP l i ∈ l := by
  rw [cornerP_get h]; exact List.getElem_mem _
theorem cornerP_lt {l : List Pt} {i : Nat} (h : i < l.length) : cornerP l i = l[i] := by
  rw [cornerP_get (by omega)]; simp only [Nat.mod_eq_of_lt h]
/-- A corner at which a polygon is not simple; a pair of edges that meet. -/
def ptEq (a b : Pt) : Bool := decide (a.x = b.x) && (decide (a.y = b.y) && true)
theorem ptEq_iff {a b : Pt} : ptEq a b = true ↔ a = b := by
  cases a; cases b; simp [ptEq]
end Go.Pv.Geo

open Go Go.Proofs Go.Pv
set_option maxHeartbeats 4000000
set_option maxRecDepth 100000
set_option linter.unusedSimpArgs false
set_option linter.unusedVariables false
namespace Go.Pv.Geo
end Go.Pv.Geo

open Go Go.Proofs Go.Pv
set_option maxHeartbeats 4000000
set_option maxRecDepth 100000
set_option linter.unusedSimpArgs false
set_option linter.unusedVariables false
namespace Go.Pv.Geo
end Go.Pv.Geo

open Go Go.Proofs Go.Pv
set_option maxHeartbeats 4000000
set_option maxRecDepth 100000
set_option linter.unusedSimpArgs false
set_option linter.unusedVariables false
namespace Go.Pv.Geo
end Go.Pv.Geo

namespace Go.Pv.Geo
/- Polygons, turned over and begun elsewhere: plain. -/
theorem corner_mod {l : List Pt} {i j : Nat} (h : i % l.length = j % l.length) : cornerP l i = cornerP l j := by unfold cornerP; rw [h]
theorem corner_per (l : List Pt) (i : Nat) : cornerP l (i + l.length) = cornerP l i := corner_mod (by simp)
end Go.Pv.Geo

namespace Go.Pv.Geo
/- The parity of the edges to the right of a point is that of the edges above it: plain. -/
theorem sg {u v : Int} : (¬0 < u ∨ ¬0 < v ∨ 0 < u * v) ∧ (¬u < 0 ∨ ¬0 < v ∨ u * v < 0) ∧ (¬0 < u ∨ ¬v < 0 ∨ u * v < 0) ∧ (¬u < 0 ∨ ¬v < 0 ∨ 0 < u * v) ∧ (¬u = 0 ∨ u * v = 0) ∧ (¬v = 0 ∨ u * v = 0) := by
  refine ⟨?_, ?_, ?_, ?_, ?_, ?_⟩
  · by_cases h : 0 < u <;> by_cases h' : 0 < v <;> simp [h, h']
    exact Int.mul_pos h h'
  · by_cases h : u < 0 <;> by_cases h' : 0 < v <;> simp [h, h']
    exact Int.mul_neg_of_neg_of_pos h h'
  · by_cases h : 0 < u <;> by_cases h' : v < 0 <;> simp [h, h']
    exact Int.mul_neg_of_pos_of_neg h h'
  · by_cases h : u < 0 <;> by_cases h' : v < 0 <;> simp [h, h']
    exact Int.mul_pos_of_neg_of_neg h h'
  · by_cases h : u = 0
    · right; rw [h, Int.zero_mul]
    · left; exact h
  · by_cases h : v = 0
    · right; rw [h, Int.mul_zero]
    · left; exact h
end Go.Pv.Geo

set_option linter.unusedVariables false
set_option linter.unusedSimpArgs false
namespace Go.Pv.Geo
/-! The hull is a convex polygon: its turns, its simplicity, and its inside, plain. -/
theorem HullOf.edgeC {L H : List Pt} (h : HullOf L H) (i : Nat) : Edge L (cornerP H i) (cornerP H (i + 1)) := by
  have h0 : 0 < H.length := by have := h.len; omega
  have hi := Nat.mod_lt i h0
  have := h.edge (i % H.length) hi
  rw [cornerP_get h0, cornerP_get h0]
  have e : (i % H.length + 1) % H.length = (i + 1) % H.length := by simp [Nat.add_mod]
  simpa only [e] using this
theorem HullOf.inj {L H : List Pt} (h : HullOf L H) {i j : Nat} (e : cornerP H i = cornerP H j) : i % H.length = j % H.length := by
  have h0 : 0 < H.length := by have := h.len; omega
  rw [cornerP_get h0, cornerP_get h0] at e
  exact (List.getElem_inj h.nodup).1 e
theorem HullOf.memC {L H : List Pt} (h : HullOf L H) (i : Nat) : cornerP H i ∈ L := by
  have h0 : 0 < H.length := by have := h.len; omega
  exact h.mem _ (cornerP_mem h0 i)
/-- A corner is on no edge but its own two. -/
theorem HullOf.strict {L H : List Pt} (h : HullOf L H) {i j : Nat} (h1 : i % H.length ≠ j % H.length) (h2 : (i + 1) % H.length ≠ j % H.length) : 0 < crossE (cornerP H i) (cornerP H (i + 1)) (cornerP H j) := by
  have h0 : 0 < H.length := by have := h.len; omega
  have e := h.edgeC i
  have hj := h.memC j
  have hle := e.left _ hj
  have n1 : cornerP H j ≠ cornerP H i := fun e => h1 (h.inj e).symm
  have n2 : cornerP H j ≠ cornerP H (i + 1) := fun e => h2 (h.inj e).symm
  by_cases hz : crossE (cornerP H i) (cornerP H (i + 1)) (cornerP H j) = 0
  · exfalso
    have hb := e.btw _ hj hz
    -- the edge that leads to the corner j
    have e' := h.edgeC (j + H.length - 1)
    have ej : cornerP H (j + H.length - 1 + 1) = cornerP H j := by
      rw [show j + H.length - 1 + 1 = j + H.length by omega]; exact corner_per H j
    rw [ej] at e'
    generalize cornerP H (j + H.length - 1) = d at *
    have ma := h.memC i
    have mb := h.memC (i + 1)
    generalize cornerP H i = a at *
    generalize cornerP H (i + 1) = b at *
    generalize cornerP H j = c at *
    have l1 := e'.left a ma
    have l2 := e'.left b mb
    have p := plucker 1 c a b d
    have q1 : crossE c b d = crossE d c b := (cross_rot d c b).symm
    have q2 : crossE c a d = crossE d c a := (cross_rot d c a).symm
    have q3 : crossE c a b = crossE a b c := cross_rot c a b
    rw [q1, q2, q3, hz] at p
    have p' : (key a - key c) * crossE d c b = (key b - key c) * crossE d c a := by unfold tau at p; grind
    have k1 : key c ≠ key a := by
      intro hk
      have : crossE c a b = 0 := by rw [q3, hz]
      have hx : (key b - key a) * (c.x - a.x) = (b.x - a.x) * (key c - key a) := by unfold crossE at hz; unfold key; grind
      have hy : (key b - key a) * (c.y - a.y) = (b.y - a.y) * (key c - key a) := by unfold crossE at hz; unfold key; grind
      rw [hk, Int.sub_self, Int.mul_zero] at hx hy
      have hne := e.ne
      rcases Int.mul_eq_zero.1 hx with hx | hx
      · omega
      · rcases Int.mul_eq_zero.1 hy with hy | hy
        · omega
        · exact n1 (by obtain ⟨cx, cy⟩ := c; obtain ⟨ax, ay⟩ := a; simp only [Pt.mk.injEq]; simp only at hx hy; omega)
    have k2 : key c ≠ key b := by
      intro hk
      have hx : (key a - key b) * (c.x - b.x) = (a.x - b.x) * (key c - key b) := by unfold crossE at hz; unfold key; grind
      have hy : (key a - key b) * (c.y - b.y) = (a.y - b.y) * (key c - key b) := by unfold crossE at hz; unfold key; grind
      rw [hk, Int.sub_self, Int.mul_zero] at hx hy
      have hne := e.ne
      rcases Int.mul_eq_zero.1 hx with hx | hx
      · omega
      · rcases Int.mul_eq_zero.1 hy with hy | hy
        · omega
        · exact n2 (by obtain ⟨cx, cy⟩ := c; obtain ⟨bx, by'⟩ := b; simp only [Pt.mk.injEq]; simp only at hx hy; omega)
    unfold Btw at hb
    have z1 : crossE d c a = 0 ∧ crossE d c b = 0 := by
      rcases hb with hb | hb
      · have a1 := Int.mul_nonneg (show 0 ≤ key c - key a by omega) l2
        have a2 := Int.mul_nonneg (show 0 ≤ key b - key c by omega) l1
        have a3 : (key c - key a) * crossE d c b = -((key a - key c) * crossE d c b) := by grind
        have a4 : (key c - key a) * crossE d c b = 0 := by omega
        have a5 : (key b - key c) * crossE d c a = 0 := by omega
        rcases Int.mul_eq_zero.1 a4 with h | h <;> rcases Int.mul_eq_zero.1 a5 with h' | h' <;> omega
      · have a1 := Int.mul_nonneg (show 0 ≤ key a - key c by omega) l2
        have a2 := Int.mul_nonneg (show 0 ≤ key c - key b by omega) l1
        have a3 : (key c - key b) * crossE d c a = -((key b - key c) * crossE d c a) := by grind
        have a4 : (key a - key c) * crossE d c b = 0 := by omega
        have a5 : (key c - key b) * crossE d c a = 0 := by omega
        rcases Int.mul_eq_zero.1 a4 with h | h <;> rcases Int.mul_eq_zero.1 a5 with h' | h' <;> omega
    have b1 := e'.btw a ma z1.1
    have b2 := e'.btw b mb z1.2
    have hne := e'.ne
    unfold Btw at b1 b2
    omega
  · omega
end Go.Pv.Geo

open Go Go.Proofs Go.Pv
set_option maxHeartbeats 4000000
set_option maxRecDepth 100000
set_option linter.unusedSimpArgs false
set_option linter.unusedVariables false
namespace Go.Pv.Geo
def encZ (n : Int) : List D := [.int .i64 n]
/-- The first one that is not 0, or 0. -/
def orE (l : List Int) : Int := (l.find? fun x => decide (x ≠ 0)).getD 0
theorem orE_hit {l : List Int} {i : Nat} (hi : i < l.length) (h : l[i] ≠ 0) (hb : ∀ j (hj : j < i), l[j]'(by omega) = 0) : orE l = l[i] := by
  have : l.find? (fun x => decide (x ≠ 0)) = some l[i] := by
    rw [List.find?_eq_some_iff_getElem]
    exact ⟨by simpa using h, i, hi, rfl, fun j hj => by simpa using hb j hj⟩
  rw [orE, this]; rfl
theorem orE_none {l : List Int} (h : ∀ j (hj : j < l.length), l[j] = 0) : orE l = 0 := by
  have : l.find? (fun x => decide (x ≠ 0)) = none := by
    rw [List.find?_eq_none]
    intro x hx
    obtain ⟨j, hj, rfl⟩ := List.getElem_of_mem hx
    simpa using h j hj
  rw [orE, this]; rfl
theorem c_Or (l : List Int) (hl : l.length < 1000000000000) : Contract Try.prog 116 [.sl (l.map encZ)] (.ret (.int .i64 (orE l))) := by
  refine contract_of mix Try.func116 rfl rfl (by rw [Try.ntmps116]; exact Nat.le_of_ble_eq_true rfl) ?_; rw [Try.results116, Try.ntmps116]; simp only [argsE, Nat.reduceAdd]
  repeat' first
           | (with_reducible apply go_op)
           | (with_reducible apply go_next)
           | ((with_reducible (show evOp _ _ _ _ _ _)); first
             | ((with_reducible (show evOp _ (.move _) _ _ _ _)) ; first | ((with_reducible apply go_mv_int); rfl; rfl) | ((with_reducible apply go_mv_sl); rfl; rfl))
             | ((with_reducible apply go_as))
             | (((with_reducible apply go_len); rfl; rfl)))
           | ((with_reducible (show evOps _ _ _ _ _ _)); first
             | (with_reducible apply go_nil))
           | ((with_reducible (show evG _ _ _ _ _)); first
             | (with_reducible apply go_seq)
             | (with_reducible apply go_region)
             | (with_reducible apply go_block))
           | (with_reducible apply go_kseq)
  refine go_count l.length (fun i => ⟨[(8, .int .i64 i), (7, .int .i64 l.length), (6, .sl (l.map encZ)), (3, .int .i64 0), (2, .int .i64 0)], [], 32, 18⟩) (fun i => ∀ j (hj : j < i), ∀ (hl : j < l.length), l[j] = 0)
    (entails_eq (nx := 32) (k := 0) (ns := []) (ks := [8, 7, 6, 3, 2]) [] rfl (by simp) (by kernel_rfl)) (fun j hj => by omega) ?_
  intro i hi hC
  by_cases hlt : i < l.length
  · repeat' first
           | (with_reducible apply go_op)
           | (with_reducible apply go_next)
           | ((with_reducible (show evOp _ _ _ _ _ _)); first
             | (((with_reducible apply go_mv_int); rfl; rfl))
             | ((with_reducible apply go_as))
             | (((with_reducible apply go_load); rfl; rfl; rfl))
             | (((with_reducible apply go_index_nat); rfl; rfl; (with_reducible rfl); (intro; rfl); rfl; omega; (intro hlt)))
             | ((with_reducible (show evOp _ (.binOp _ _ _ _ _) _ _ _ _)) ; first | ((with_reducible apply go_cmp); rfl; rfl; rfl; rfl) | ((with_reducible apply go_add); rfl; rfl; rfl; omega)))
           | ((with_reducible (show evOps _ _ _ _ _ _)); first
             | (with_reducible apply go_nil))
           | ((with_reducible (show evG _ _ _ _ _)); first
             | (with_reducible apply go_seq)
             | (with_reducible apply go_region)
             | (((with_reducible apply go_cond); rfl) <;> (intro h; simp only [h]; try simp only [decide_eq_true_eq, decide_eq_false_iff_not, Bool.not_eq_true', Bool.not_eq_false', Bool.not_true, Bool.not_false] at h; try exact absurd trivial h))
             | (with_reducible apply go_ret)
             | (with_reducible apply go_skipc)
             | (with_reducible apply go_block)
             | (with_reducible apply go_exit))
           | (with_reducible apply go_kseq)
           | (with_reducible apply go_kseq_ret)
           | (with_reducible apply go_kblock)
           | (with_reducible apply go_kblock_ret)
           | (with_reducible apply go_kblock_exit)
           | (with_reducible apply go_kseq_exit)
           | ((with_reducible apply end_int); rfl)
    all_goals try (exfalso; omega)
    · exact (orE_hit hlt (by assumption) (fun j hj => hC j hj (by omega))).symm
    · refine ⟨hlt, fun j hj hj2 => ?_, entails_eq (nx := 32) (k := 0) (ns := []) (ks := [8, 7, 6, 3, 2]) [] rfl (by simp) (by kernel_rfl)⟩
      rcases Nat.lt_succ_iff_lt_or_eq.1 hj with h' | rfl
      · exact hC j h' hj2
      · assumption
  · have e : i = l.length := by omega
    subst e
    repeat' first
           | (with_reducible apply go_op)
           | (with_reducible apply go_next)
           | ((with_reducible (show evOp _ _ _ _ _ _)); first
             | (((with_reducible apply go_mv_int); rfl; rfl))
             | ((with_reducible apply go_as))
             | (((with_reducible apply go_load); rfl; rfl; rfl))
             | (((with_reducible apply go_index_nat); rfl; rfl; (with_reducible rfl); (intro; rfl); rfl; omega; (intro hlt)))
             | ((with_reducible (show evOp _ (.binOp _ _ _ _ _) _ _ _ _)) ; first | ((with_reducible apply go_cmp); rfl; rfl; rfl; rfl) | ((with_reducible apply go_add); rfl; rfl; rfl; omega)))
           | ((with_reducible (show evOps _ _ _ _ _ _)); first
             | (with_reducible apply go_nil))
           | ((with_reducible (show evG _ _ _ _ _)); first
             | (with_reducible apply go_seq)
             | (with_reducible apply go_region)
             | (((with_reducible apply go_cond); rfl) <;> (intro h; simp only [h]; try simp only [decide_eq_true_eq, decide_eq_false_iff_not, Bool.not_eq_true', Bool.not_eq_false', Bool.not_true, Bool.not_false] at h; try exact absurd trivial h))
             | (with_reducible apply go_ret)
             | (with_reducible apply go_skipc)
             | (with_reducible apply go_block)
             | (with_reducible apply go_exit))
           | (with_reducible apply go_kseq)
           | (with_reducible apply go_kseq_ret)
           | (with_reducible apply go_kblock)
           | (with_reducible apply go_kblock_ret)
           | (with_reducible apply go_kblock_exit)
           | (with_reducible apply go_kseq_exit)
           | ((with_reducible apply end_int); rfl)
    all_goals first
      | (exfalso; omega)
      | exact (orE_none fun j hj => hC j hj hj).symm
      | trace_state
theorem c_Or2 (a b : Int) : Contract Try.prog 116 [.sl [[.int .i64 a], [.int .i64 b]]] (.ret (.int .i64 (orE [a, b]))) := c_Or [a, b] (by simp)
theorem c_Or3 (a b c : Int) : Contract Try.prog 116 [.sl [[.int .i64 a], [.int .i64 b], [.int .i64 c]]] (.ret (.int .i64 (orE [a, b, c]))) := c_Or [a, b, c] (by simp)
/-- Which of two places comes first. -/
def aheadE (p q : Pt) : Int := orE [cmpE p.x q.x, cmpE p.y q.y]
theorem c_ahead (p q : Pt) : Contract Try.prog 109 [.agg (encPt p), .agg (encPt q)] (.ret (.int .i64 (aheadE p q))) := by
  refine contract_of mix Try.func109 rfl rfl (by rw [Try.ntmps109]; exact Nat.le_of_ble_eq_true rfl) ?_; rw [Try.results109, Try.ntmps109]; simp only [argsE, Nat.reduceAdd]
  repeat' first
           | (with_reducible apply go_op)
           | (with_reducible apply go_next)
           | ((with_reducible (show evOp _ _ _ _ _ _)); first
             | (((with_reducible apply go_mv_int); rfl; rfl))
             | ((with_reducible apply go_as))
             | (((with_reducible apply go_load_own); rfl; rfl; rfl; rfl))
             | (((with_reducible apply go_fieldAddr_own); rfl; rfl; rfl))
             | ((with_reducible (show evOp _ (.call _) _ _ _ _)) ; first | ((with_reducible apply go_fn_int); rfl; (exact c_compare _ _); rfl) | ((with_reducible apply go_fn_int); rfl; (exact c_Or2 _ _); rfl))
             | (((with_reducible apply go_bx_agg); rfl; rfl; (exact Nat.le_of_ble_eq_true rfl); rfl; rfl))
             | (((with_reducible apply go_bs2_int); rfl; rfl; rfl; rfl)))
           | ((with_reducible (show evOps _ _ _ _ _ _)); first
             | (with_reducible apply go_nil)
             | ((with_reducible apply go_pre); rfl)
             | (with_reducible apply go_pre_nil)
             | ((with_reducible apply go_suf); rfl)
             | (with_reducible apply go_suf_nil))
           | ((with_reducible (show evG _ _ _ _ _)); first
             | (with_reducible apply go_seq)
             | (with_reducible apply go_region)
             | ((with_reducible apply go_order); kernel_rfl; rfl)
             | (with_reducible apply go_ret))
           | (with_reducible apply go_kseq)
           | (with_reducible apply go_ksuf)
           | ((with_reducible apply end_int); rfl)
  all_goals rfl
theorem or2 (a b : Int) : orE [a, b] = if a ≠ 0 then a else b := by
  unfold orE
  by_cases ha : a = 0 <;> by_cases hb : b = 0 <;> simp [ha, hb, List.find?]
theorem ahead_lt (p q : Pt) : ltOf aheadE p q = decide (p.x < q.x ∨ (p.x = q.x ∧ p.y < q.y)) := by
  unfold ltOf aheadE cmpE
  rw [or2]
  refine decide_eq_decide.2 ?_
  (repeat' split) <;> omega
theorem ahead_swo : Go.Sort.SWO (ltOf aheadE) where
  irrefl x := by rw [ahead_lt]; simp
  trans x y z h1 h2 := by rw [ahead_lt] at *; simp at *; omega
  ntrans x y z h1 h2 := by rw [ahead_lt] at *; simp at *; omega
theorem ahead_tot (x y : Pt) (h1 : ltOf aheadE x y = false) (h2 : ltOf aheadE y x = false) : x = y := by
  rw [ahead_lt] at *
  simp at *
  obtain ⟨a, b⟩ := x; obtain ⟨c, d⟩ := y
  simp only [Pt.mk.injEq]; simp only at h1 h2; omega
instance : Inhabited Pt := ⟨⟨0, 0⟩⟩
def sortPts (l : List Pt) : List Pt := sortBy aheadE l
theorem c_SortFunc (l : List Pt) (hl : l.length < 4611686018427387904) : ContractM Try.prog 108 [.os 0 0 l.length, .clo (.func 109) [] []] ⟨2, true, l.map encPt⟩ (.tup []) ⟨2, true, (sortPts l).map encPt⟩ :=
  contractM_sort sortPt 2 (by decide) Try.isAgg23 Try.sizeOf23 (fun p : Pt => [p.x, p.y]) (fun _ => rfl) aheadE ahead_swo ahead_tot 109 (enters_of Try.func109 (by kernel_rfl) rfl)
    (fun x y => c_ahead x y) ⟨_, Try.func108, by kernel_rfl, by kernel_rfl⟩ l hl
end Go.Pv.Geo

open Go Go.Proofs Go.Pv
set_option maxHeartbeats 8000000
set_option maxRecDepth 100000
set_option linter.unusedSimpArgs false
set_option linter.unusedVariables false
namespace Go.Pv.Geo
theorem scalR_pts (l : List Pt) : scalR (l.map encPt) = true := by
  simp only [scalR, List.all_map, List.all_eq_true, Function.comp]
  exact fun x _ => List.all_eq_true.1 (scalPt x).2
/-- A list whose first and last places have been exchanged, so many. -/
def revL (l : List Pt) (i : Nat) : List Pt := (List.range l.length).map fun x => if x < i ∨ l.length - i ≤ x then l.getD (l.length - 1 - x) ⟨0, 0⟩ else l.getD x ⟨0, 0⟩
theorem revL_len (l : List Pt) (i : Nat) : (revL l i).length = l.length := by simp [revL]
theorem revL_get {l : List Pt} {i x : Nat} (hx : x < (revL l i).length) : (revL l i)[x] = if x < i ∨ l.length - i ≤ x then l.getD (l.length - 1 - x) ⟨0, 0⟩ else l.getD x ⟨0, 0⟩ := by simp [revL]
theorem revL_0 (l : List Pt) : l = revL l 0 := by
  apply List.ext_getElem
  · simp [revL]
  · intro x h1 h2
    rw [revL_get, if_neg (by omega), List.getD_eq_getElem?_getD, List.getElem?_eq_getElem h1]; rfl
theorem revL_end {l : List Pt} {i : Nat} (h : l.length ≤ 2 * i + 1) : revL l i = l.reverse := by
  apply List.ext_getElem
  · simp [revL]
  · intro x h1 h2
    have hx : x < l.length := by simpa [revL] using h1
    rw [revL_get, List.getElem_reverse]
    split
    · rw [List.getD_eq_getElem?_getD, List.getElem?_eq_getElem (by omega)]; rfl
    · rw [List.getD_eq_getElem?_getD, List.getElem?_eq_getElem hx]
      simp only [Option.getD_some]
      congr 1; omega
theorem revL_step {l : List Pt} {i : Nat} (h : 2 * i + 1 < l.length) (hi : i < (revL l i).length) (hj : l.length - 1 - i < (revL l i).length) :
    ((revL l i).set i (revL l i)[l.length - 1 - i]).set (l.length - 1 - i) (revL l i)[i] = revL l (i + 1) := by
  apply List.ext_getElem
  · simp [revL]
  · intro x h1 h2
    have hx : x < l.length := by simpa [revL] using h2
    simp only [List.getElem_set, revL_get]
    by_cases e1 : l.length - 1 - i = x
    · rw [if_pos e1, if_neg (by omega), if_pos (by omega)]
      subst e1
      rw [show l.length - 1 - (l.length - 1 - i) = i by omega]
    · rw [if_neg e1]
      by_cases e2 : i = x
      · rw [if_pos e2, if_neg (by omega), if_pos (by omega)]
        subst e2; rfl
      · rw [if_neg e2]
        by_cases e3 : x < i ∨ l.length - i ≤ x
        · rw [if_pos e3, if_pos (by omega)]
        · rw [if_neg e3, if_neg (by omega)]
theorem c_Reverse (l : List Pt) (hl : l.length < 1000000000000) : ContractM Try.prog 111 [.os 0 0 l.length] ⟨2, true, l.map encPt⟩ (.tup []) ⟨2, true, l.reverse.map encPt⟩ := by
  refine contractM_of mix Try.func111 rfl rfl (by rw [Try.ntmps111]; exact Nat.le_of_ble_eq_true rfl) (by kernel_rfl) (scalR_pts _) rfl ?_; rw [Try.results111, Try.ntmps111]; simp only [argsE, Nat.reduceAdd]
  repeat' first
           | (with_reducible apply go_op)
           | (with_reducible apply go_next)
           | ((with_reducible (show evOp _ _ _ _ _ _)); first
             | ((with_reducible (show evOp _ (.move _) _ _ _ _)) ; first | ((with_reducible apply go_mv_int); rfl; rfl) | ((with_reducible apply go_mv_os); rfl; rfl))
             | ((with_reducible apply go_as))
             | (((with_reducible apply go_sub); rfl; rfl; rfl; omega))
             | (((with_reducible apply go_len_own); rfl; rfl; rfl)))
           | ((with_reducible (show evOps _ _ _ _ _ _)); first
             | (with_reducible apply go_nil))
           | ((with_reducible (show evG _ _ _ _ _)); first
             | (with_reducible apply go_seq)
             | (with_reducible apply go_region)
             | (with_reducible apply go_block))
           | (with_reducible apply go_kseq)
  refine go_count (l.length / 2) (fun i => ⟨[(3, .int .i64 (((l.length : Nat) : Int) - 1 - i)), (2, .int .i64 i), (0, .os 0 0 l.length)], [(0, ⟨2, true, (revL l i).map encPt⟩)], 32, 28⟩) (fun i => True)
    (entailsK_eq (nx := 32) (k := 0) (ns := []) (ks := [3, 2, 0]) [(0, 0)] (by simp) rfl (by simp) (by rw [show ([(0, ⟨2, true, (revL l 0).map encPt⟩)] : Hp) = [(0, ⟨2, true, l.map encPt⟩)] by rw [← revL_0]]; simp only [Int.natCast_zero, Int.sub_zero]; kernel_rfl)) trivial ?_
  intro i hi _
  have hrl := revL_len l i
  by_cases hlt : 2 * i + 1 < l.length
  · have hst := fun a b => revL_step (l := l) (i := i) hlt a b
    obtain ⟨j, hj, hj2⟩ : ∃ j : Nat, ((l.length : Nat) : Int) - 1 - i = j ∧ j = l.length - 1 - i := ⟨l.length - 1 - i, by omega, rfl⟩
    rw [← hj2] at hst
    rw [hj]
    generalize revL l i = r at *
    repeat' first
           | (with_reducible apply go_op)
           | (with_reducible apply go_next)
           | ((with_reducible (show evOp _ _ _ _ _ _)); first
             | ((with_reducible (show evOp _ (.move _) _ _ _ _)) ; first | ((with_reducible apply go_mv_int); rfl; rfl) | ((with_reducible apply go_mv_os); rfl; rfl))
             | (((with_reducible apply go_load_om); rfl; rfl; rfl; rfl; rotate_left; assumption))
             | (((with_reducible apply go_index_om); rfl; rfl; rfl; (with_reducible rfl); rfl; rfl; omega; (intro hlt)))
             | (((with_reducible apply go_cmp); rfl; rfl; rfl; rfl)))
           | ((with_reducible (show evOps _ _ _ _ _ _)); first
             | (with_reducible apply go_nil)
             | (with_reducible apply go_take)
             | (with_reducible apply go_take0))
           | ((with_reducible (show evG _ _ _ _ _)); first
             | (with_reducible apply go_seq)
             | (with_reducible apply go_region)
             | (((with_reducible apply go_cond); rfl) <;> (intro h; simp only [h]; try simp only [decide_eq_true_eq, decide_eq_false_iff_not, Bool.not_eq_true', Bool.not_eq_false', Bool.not_true, Bool.not_false] at h; try exact absurd trivial h))
             | ((with_reducible apply (go_drawL 13 [[2, 3], [], []])); decide +kernel; rfl)
             | (with_reducible apply go_skipc)
             | (with_reducible apply go_block)
             | (with_reducible apply go_exit))
           | (with_reducible apply go_klined)
           | (with_reducible apply go_line_drop)
           | (with_reducible apply go_line_drop0)
           | (with_reducible apply go_line)
           | (with_reducible apply go_kseq)
           | (with_reducible apply go_kblock_exit)
           | (with_reducible apply go_kseq_exit)
    all_goals try (exfalso; omega)
    refine go_store_om (f := encPt) (l := r) (a := r[j]'(by omega)) rfl rfl rfl (by omega) rfl rfl rfl rfl (Nat.le_of_ble_eq_true rfl) rfl ?_
    have hr1 : (r.set i (r[j]'(by omega))).length = l.length := by rw [List.length_set]; exact hrl
    have hst' := hst (by omega) (by omega)
    generalize ha : r[i]'(by omega) = a at *
    generalize r.set i (r[j]'(by omega)) = r1 at *
    repeat' first
           | ((with_reducible (show evOp _ _ _ _ _ _)); first
             | ((with_reducible (show evOp _ (.move _) _ _ _ _)) ; first | ((with_reducible apply go_mv_int); rfl; rfl) | ((with_reducible apply go_mv_os); rfl; rfl))
             | (((with_reducible apply go_index_om); rfl; rfl; rfl; (with_reducible rfl); rfl; rfl; omega; (intro hlt))))
           | (with_reducible apply go_line)
           | (with_reducible apply go_kln)
           | (with_reducible apply go_again_nil)
           | ((with_reducible apply go_again); rfl; (intro id'))
           | ((with_reducible apply go_kagain); rfl)
    refine go_store_om (f := encPt) (l := r1) (a := a) rfl rfl rfl (by omega) rfl rfl rfl rfl (Nat.le_of_ble_eq_true rfl) rfl ?_
    rw [hst']
    repeat' first
           | (with_reducible apply go_op)
           | (with_reducible apply go_next)
           | ((with_reducible (show evOp _ _ _ _ _ _)); first
             | (((with_reducible apply go_mv_int); rfl; rfl))
             | ((with_reducible apply go_as))
             | ((with_reducible (show evOp _ (.binOp _ _ _ _ _) _ _ _ _)) ; first | ((with_reducible apply go_add); rfl; rfl; rfl; omega) | ((with_reducible apply go_sub); rfl; rfl; rfl; omega)))
           | ((with_reducible (show evOps _ _ _ _ _ _)); first
             | (with_reducible apply go_nil))
           | ((with_reducible (show evG _ _ _ _ _)); first
             | (with_reducible apply go_region))
           | (with_reducible apply go_line_nil)
           | (with_reducible apply go_kln)
           | (with_reducible apply go_again_nil)
           | (with_reducible apply go_kseq)
           | (with_reducible apply go_kblock)
    exact ⟨by omega, trivial, entailsK_eq (nx := 32) (k := 0) (ns := []) (ks := [3, 2, 0]) [(0, 0)] (by simp) rfl (by simp) (by rw [show ((l.length : Nat) : Int) - 1 - ((i + 1 : Nat) : Int) = (j : Int) - 1 by omega]; kernel_rfl)⟩
  · have e := revL_end (l := l) (i := i) (by omega)
    repeat' first
           | (with_reducible apply go_op)
           | (with_reducible apply go_next)
           | ((with_reducible (show evOp _ _ _ _ _ _)); first
             | ((with_reducible (show evOp _ (.move _) _ _ _ _)) ; first | ((with_reducible apply go_mv_int); rfl; rfl) | ((with_reducible apply go_mv_os); rfl; rfl))
             | (((with_reducible apply go_index_own); rfl; rfl; rfl; rfl; rfl; omega))
             | (((with_reducible apply go_cmp); rfl; rfl; rfl; rfl)))
           | ((with_reducible (show evOps _ _ _ _ _ _)); first
             | (with_reducible apply go_nil)
             | (with_reducible apply go_take))
           | ((with_reducible (show evG _ _ _ _ _)); first
             | (with_reducible apply go_seq)
             | (with_reducible apply go_region)
             | (((with_reducible apply go_cond); rfl) <;> (intro h; simp only [h]; try simp only [decide_eq_true_eq, decide_eq_false_iff_not, Bool.not_eq_true', Bool.not_eq_false', Bool.not_true, Bool.not_false] at h; try exact absurd trivial h))
             | ((with_reducible apply (go_drawL 13 [[2, 3], [], []])); decide +kernel; rfl)
             | (with_reducible apply go_skipc)
             | (with_reducible apply go_block)
             | (with_reducible apply go_exit))
           | (with_reducible apply go_kseq)
           | (with_reducible apply go_kblock_exit)
           | (with_reducible apply go_kseq_exit)
    all_goals first
      | (exfalso; omega)
      | exact ⟨[], rfl, rfl, by rw [← e]; rfl⟩
      | trace_state
end Go.Pv.Geo

open Go Go.Proofs Go.Pv
set_option maxHeartbeats 8000000
set_option maxRecDepth 100000
set_option linter.unusedSimpArgs false
set_option linter.unusedVariables false
namespace Go.Pv.Geo
/-- Is a place of a list unlike the one ahead of it? -/
def keepB (l : List Pt) (i : Nat) : Bool := decide (i = 0) || !ptEq (l.getD i ⟨0, 0⟩) (l.getD (i - 1) ⟨0, 0⟩)
def compT (l : List Pt) (m : Nat) : List Pt := ((List.range m).filter (keepB l)).map fun i => l.getD i ⟨0, 0⟩
def compL (l : List Pt) : List Pt := compT l l.length
theorem compT_le (l : List Pt) (m : Nat) : (compT l m).length ≤ m := by
  have := List.length_filter_le (keepB l) (List.range m)
  simp only [compT, List.length_map, List.length_range] at *; omega
theorem compT_yes {l : List Pt} {m : Nat} (h : keepB l m = true) : compT l (m + 1) = compT l m ++ [l.getD m ⟨0, 0⟩] := by
  simp [compT, List.range_succ, List.filter_append, h]
theorem compT_no {l : List Pt} {m : Nat} (h : keepB l m = false) : compT l (m + 1) = compT l m := by
  simp [compT, List.range_succ, List.filter_append, h]
theorem compT_all {l : List Pt} {m : Nat} (hm : m ≤ l.length) (h : ∀ j, j < m → keepB l j = true) : compT l m = l.take m := by
  induction m with
  | zero => rfl
  | succ m ih =>
    rw [compT_yes (h m (by omega)), ih (by omega) (fun j hj => h j (by omega)), List.take_add_one, List.getD_eq_getElem?_getD, List.getElem?_eq_getElem (by omega)]
    rfl
/-- The list while it is compacted: the kept ones, and what stood behind. -/
def rowsC (l : List Pt) (m : Nat) : List Pt := compT l m ++ l.drop (compT l m).length
theorem rowsC_len {l : List Pt} {m : Nat} (hm : m ≤ l.length) : (rowsC l m).length = l.length := by
  have := compT_le l m
  simp [rowsC]; omega
theorem rowsC_get {l : List Pt} {m x : Nat} (hx : x < (rowsC l m).length) (hk : (compT l m).length ≤ x) (hx' : x < l.length) : (rowsC l m)[x] = l[x] := by
  simp only [rowsC]
  rw [List.getElem_append_right hk, List.getElem_drop]
  congr 1; omega
theorem rowsC_all {l : List Pt} {m : Nat} (hm : m ≤ l.length) (h : ∀ j, j < m → keepB l j = true) : rowsC l m = l := by
  rw [rowsC, compT_all hm h, List.length_take, Nat.min_eq_left hm, List.take_append_drop]
theorem rowsC_set {l : List Pt} {m : Nat} (hm : m < l.length) (h : keepB l m = true) : (rowsC l m).set (compT l m).length l[m] = rowsC l (m + 1) := by
  have hle := compT_le l m
  unfold rowsC
  rw [compT_yes h, List.set_append_right _ _ (Nat.le_refl _), Nat.sub_self, List.length_append, List.length_singleton, List.append_assoc]
  congr 1
  rw [List.drop_eq_getElem_cons (show (compT l m).length < l.length by omega), List.set_cons_zero, List.getD_eq_getElem?_getD, List.getElem?_eq_getElem hm]
  rfl
theorem rowsC_no {l : List Pt} {m : Nat} (h : keepB l m = false) : rowsC l m = rowsC l (m + 1) := by rw [rowsC, rowsC, compT_no h]
theorem rowsC_take (l : List Pt) (m : Nat) : (rowsC l m).take (compT l m).length = compT l m := by simp [rowsC]
theorem keep_iff {l : List Pt} {i : Nat} (h0 : 0 < i) (hi : i < l.length) : keepB l i = !ptEq l[i] (l[i - 1]'(by omega)) := by
  unfold keepB
  rw [decide_eq_false (by omega), List.getD_eq_getElem?_getD, List.getElem?_eq_getElem hi, List.getD_eq_getElem?_getD, List.getElem?_eq_getElem (by omega)]
  rfl
theorem keep_0 {l : List Pt} {j : Nat} (h : j < 1) : keepB l j = true := by
  obtain rfl : j = 0 := by omega
  rfl
theorem c_Compact (l : List Pt) (hl : l.length < 1000000000000) : ContractM Try.prog 110 [.os 0 0 l.length] ⟨2, true, l.map encPt⟩ (.os 0 0 (compL l).length) ⟨2, true, (compL l).map encPt⟩ := by
  by_cases h2 : l.length < 2
  · have e : compL l = l := by
      unfold compL
      have := compT_all (l := l) (m := l.length) (Nat.le_refl _) (fun j hj => keep_0 (by omega))
      rw [this]; exact List.take_length
    rw [e]
    refine contractM_of mix Try.func110 rfl rfl (by rw [Try.ntmps110]; exact Nat.le_of_ble_eq_true rfl) (by kernel_rfl) (scalR_pts _) rfl ?_; rw [Try.results110, Try.ntmps110]; simp only [argsE, Nat.reduceAdd]
    repeat' first
           | (with_reducible apply go_op)
           | (with_reducible apply go_next)
           | ((with_reducible (show evOp _ _ _ _ _ _)); first
             | ((with_reducible (show evOp _ (.move _) _ _ _ _)) ; first | ((with_reducible apply go_mv_int); rfl; rfl) | ((with_reducible apply go_mv_os); rfl; rfl) | ((with_reducible apply go_mv_nilsl); rfl; rfl))
             | ((with_reducible apply go_as))
             | (((with_reducible apply go_cmp); rfl; rfl; rfl; rfl))
             | (((with_reducible apply go_len_own); rfl; rfl; rfl)))
           | ((with_reducible (show evOps _ _ _ _ _ _)); first
             | (with_reducible apply go_nil))
           | ((with_reducible (show evG _ _ _ _ _)); first
             | (with_reducible apply go_seq)
             | (with_reducible apply go_region)
             | (((with_reducible apply go_cond); rfl) <;> (intro h; simp only [h]; try simp only [decide_eq_true_eq, decide_eq_false_iff_not, Bool.not_eq_true', Bool.not_eq_false', Bool.not_true, Bool.not_false] at h; try exact absurd trivial h))
             | (with_reducible apply go_ret)
             | (with_reducible apply go_skipc)
             | (with_reducible apply go_block))
           | (with_reducible apply go_kseq)
           | (with_reducible apply go_kseq_ret)
    all_goals first
      | (exfalso; omega)
      | exact ⟨[.os 0 0 l.length], rfl, rfl, rfl⟩
      | trace_state
  have hz : keepB l 0 = true := rfl
  refine contractM_of mix Try.func110 rfl rfl (by rw [Try.ntmps110]; exact Nat.le_of_ble_eq_true rfl) (by kernel_rfl) (scalR_pts _) rfl ?_; rw [Try.results110, Try.ntmps110]; simp only [argsE, Nat.reduceAdd]
  repeat' first
           | (with_reducible apply go_op)
           | (with_reducible apply go_next)
           | ((with_reducible (show evOp _ _ _ _ _ _)); first
             | ((with_reducible (show evOp _ (.move _) _ _ _ _)) ; first | ((with_reducible apply go_mv_int); rfl; rfl) | ((with_reducible apply go_mv_os); rfl; rfl) | ((with_reducible apply go_mv_nilsl); rfl; rfl))
             | ((with_reducible apply go_as))
             | (((with_reducible apply go_cmp); rfl; rfl; rfl; rfl))
             | (((with_reducible apply go_len_own); rfl; rfl; rfl)))
           | ((with_reducible (show evOps _ _ _ _ _ _)); first
             | (with_reducible apply go_nil))
           | ((with_reducible (show evG _ _ _ _ _)); first
             | (with_reducible apply go_seq)
             | (with_reducible apply go_region)
             | (((with_reducible apply go_cond); rfl) <;> (intro h; simp only [h]; try simp only [decide_eq_true_eq, decide_eq_false_iff_not, Bool.not_eq_true', Bool.not_eq_false', Bool.not_true, Bool.not_false] at h; try exact absurd trivial h))
             | (with_reducible apply go_ret)
             | (with_reducible apply go_skipc)
             | (with_reducible apply go_block))
           | (with_reducible apply go_kseq)
           | (with_reducible apply go_kseq_ret)
  all_goals try (exfalso; omega)
  refine go_count (l.length - 1) (fun i => ⟨[(3, .int .i64 ((i + 1 : Nat) : Int)), (0, .os 0 0 l.length)], [(0, ⟨2, true, l.map encPt⟩)], 32, 61⟩) (fun i => ∀ j, j < i + 1 → keepB l j = true)
    (entailsK_eq (nx := 32) (k := 0) (ns := []) (ks := [3, 0]) [(0, 0)] (by simp) rfl (by simp) (by kernel_rfl)) (fun j hj => keep_0 (by omega)) ?_
  intro i hi hC
  by_cases hlt : i + 1 < l.length
  · have hk := keep_iff (l := l) (i := i + 1) (by omega) hlt
    repeat' first
           | ((with_reducible apply (go_index_oq (i := i))); rfl; rfl; rfl; omega; rfl; rfl; (exact ⟨by omega, by omega⟩); (intro hlt))
           | ((with_reducible apply (go_index_oq (i := (i + 1)))); rfl; rfl; rfl; omega; rfl; rfl; (exact ⟨by omega, by omega⟩); (intro hlt))
           | (with_reducible apply go_op)
           | (with_reducible apply go_next)
           | ((with_reducible (show evOp _ _ _ _ _ _)); first
             | ((with_reducible (show evOp _ (.move _) _ _ _ _)) ; first | ((with_reducible apply go_mv_int); rfl; rfl) | ((with_reducible apply go_mv_os); rfl; rfl))
             | ((with_reducible apply go_as))
             | (((with_reducible apply go_load_om); rfl; rfl; rfl; rfl; rotate_left; assumption))
             | ((with_reducible (show evOp _ (.binOp _ _ _ _ _) _ _ _ _)) ; first | ((with_reducible apply go_cmp); rfl; rfl; rfl; rfl) | ((with_reducible apply go_add); rfl; rfl; rfl; omega) | ((with_reducible apply go_sub); rfl; rfl; rfl; omega) | ((with_reducible apply go_eql_agg); rfl; rfl; rfl; rfl))
             | (((with_reducible apply go_len_own); rfl; rfl; rfl)))
           | ((with_reducible (show evOps _ _ _ _ _ _)); first
             | (with_reducible apply go_nil)
             | ((with_reducible apply go_pre); rfl)
             | (with_reducible apply go_pre_nil)
             | ((with_reducible apply go_suf); rfl)
             | (with_reducible apply go_suf_nil))
           | ((with_reducible (show evG _ _ _ _ _)); first
             | (with_reducible apply go_seq)
             | (with_reducible apply go_region)
             | (((with_reducible apply go_cond); rfl) <;> (intro h; simp only [h]; try simp only [decide_eq_true_eq, decide_eq_false_iff_not, Bool.not_eq_true', Bool.not_eq_false', Bool.not_true, Bool.not_false] at h; try exact absurd trivial h))
             | ((with_reducible apply go_order); kernel_rfl; rfl)
             | (with_reducible apply go_ret)
             | (with_reducible apply go_skipc)
             | (with_reducible apply go_block)
             | (with_reducible apply go_exit))
           | (with_reducible apply go_kseq)
           | (with_reducible apply go_ksuf)
           | (with_reducible apply go_kblock)
           | (with_reducible apply go_kblock_exit)
           | (with_reducible apply go_kseq_exit)
    all_goals try (exfalso; omega)
    · refine go_drop_os rfl rfl rfl rfl rfl ⟨by omega, by omega⟩ ?_
      simp only [Int.toNat_natCast, Nat.zero_add]
      have hdup : keepB l (i + 1) = false := by
        rw [hk, Bool.not_eq_false']
        unfold ptEq
        simp_all
      have hrow : compT l (i + 2) = l.take (i + 1) := by rw [compT_no hdup]; exact compT_all (by omega) (fun j hj => hC j (by omega))
      have hrw : rowsC l (i + 2) = l := by rw [← rowsC_no hdup]; exact rowsC_all (by omega) (fun j hj => hC j (by omega))
      have hkk : (compT l (i + 2)).length = i + 1 := by rw [hrow, List.length_take]; omega
      repeat' first
           | (with_reducible apply go_op)
           | (with_reducible apply go_next)
           | ((with_reducible (show evOp _ _ _ _ _ _)); first
             | ((with_reducible (show evOp _ (.move _) _ _ _ _)) ; first | ((with_reducible apply go_mv_int); rfl; rfl) | ((with_reducible apply go_mv_os); rfl; rfl))
             | ((with_reducible apply go_as)))
           | ((with_reducible (show evOps _ _ _ _ _ _)); first
             | (with_reducible apply go_nil))
           | ((with_reducible (show evG _ _ _ _ _)); first
             | (with_reducible apply go_seq)
             | (with_reducible apply go_region)
             | (with_reducible apply go_block))
           | (with_reducible apply go_kseq)
      refine go_count (l.length - (i + 2)) (fun c => ⟨[(5, .int .i64 ((c + 1 : Nat) : Int)), (4, .os 0 (i + 1) (l.length - (i + 1))), (3, .int .i64 (((compT l (i + 2 + c)).length : Nat) : Int)), (0, .os 0 0 l.length)], [(0, ⟨2, true, (rowsC l (i + 2 + c)).map encPt⟩)], 32, 61⟩) (fun c => (compT l (i + 2 + c)).length ≤ i + 1 + c)
        (entailsK_eq (nx := 32) (k := 0) (ns := []) (ks := [5, 4, 3, 0]) [(0, 0)] (by simp) rfl (by simp) (by simp only [Nat.add_zero]; rw [hkk, hrw]; kernel_rfl)) (by simp only [Nat.add_zero]; omega) ?_
      clear h hlt hk
      intro c hc
      by_cases hlt : i + 2 + c < l.length
      · have hx1 : i + 1 + (c + 1) < l.length := by omega
        have hx2 : i + 1 + c < l.length := by omega
        have hk := keep_iff (l := l) (i := i + 2 + c) (by omega) hlt
        intro hcl
        have hy1 : (compT l (i + 2 + c)).length ≤ i + 1 + (c + 1) := by omega
        have g1 := fun h => rowsC_get (l := l) (m := i + 2 + c) (x := i + 1 + (c + 1)) h hy1 hx1
        have g2 := fun h => rowsC_get (l := l) (m := i + 2 + c) (x := i + 1 + c) h hcl hx2
        have hrl := rowsC_len (l := l) (m := i + 2 + c) (by omega)
        have g3 := fun h => rowsC_set (l := l) (m := i + 2 + c) hlt h
        have g4 := fun h => rowsC_no (l := l) (m := i + 2 + c) h
        have e1 := fun h => congrArg List.length (compT_yes (l := l) (m := i + 2 + c) h)
        have e2 := fun h => congrArg List.length (compT_no (l := l) (m := i + 2 + c) h)
        generalize rowsC l (i + 2 + c) = R at *
        simp only [List.length_append, List.length_singleton] at e1
        generalize (compT l (i + 2 + c)).length = kk at *
        have hl1 : l[i + 1 + (c + 1)] = l[i + 2 + c] := by congr 1; omega
        have hl2 : l[i + 1 + c] = l[i + 2 + c - 1]'(by omega) := by congr 1; omega
        rw [← hl1, ← hl2] at hk
        repeat' first
           | ((with_reducible apply (go_index_oq (i := c))); rfl; rfl; rfl; omega; rfl; rfl; (exact ⟨by omega, by omega⟩); (intro hlt))
           | ((with_reducible apply (go_index_oq (i := (c + 1)))); rfl; rfl; rfl; omega; rfl; rfl; (exact ⟨by omega, by omega⟩); (intro hlt))
           | (with_reducible apply go_op)
           | (with_reducible apply go_next)
           | ((with_reducible (show evOp _ _ _ _ _ _)); first
             | ((with_reducible (show evOp _ (.move _) _ _ _ _)) ; first | ((with_reducible apply go_mv_int); rfl; rfl) | ((with_reducible apply go_mv_os); rfl; rfl))
             | ((with_reducible apply go_as))
             | (((with_reducible apply go_load_om); rfl; rfl; rfl; rfl; rotate_left; assumption))
             | (((with_reducible apply go_index_om); rfl; rfl; rfl; (with_reducible rfl); rfl; rfl; omega; (intro hlt)))
             | ((with_reducible (show evOp _ (.binOp _ _ _ _ _) _ _ _ _)) ; first | ((with_reducible apply go_cmp); rfl; rfl; rfl; rfl) | ((with_reducible apply go_add); rfl; rfl; rfl; omega) | ((with_reducible apply go_sub); rfl; rfl; rfl; omega) | ((with_reducible apply go_neq_agg); rfl; rfl; rfl; rfl))
             | (((with_reducible apply go_len_own); rfl; rfl; rfl)))
           | ((with_reducible (show evOps _ _ _ _ _ _)); first
             | (with_reducible apply go_nil)
             | ((with_reducible apply go_pre); rfl)
             | (with_reducible apply go_pre_nil)
             | ((with_reducible apply go_suf); rfl)
             | (with_reducible apply go_suf_nil))
           | ((with_reducible (show evG _ _ _ _ _)); first
             | (with_reducible apply go_seq)
             | (with_reducible apply go_region)
             | (((with_reducible apply go_cond); rfl) <;> (intro h; simp only [h]; try simp only [decide_eq_true_eq, decide_eq_false_iff_not, Bool.not_eq_true', Bool.not_eq_false', Bool.not_true, Bool.not_false] at h; try exact absurd trivial h))
             | ((with_reducible apply go_order); kernel_rfl; rfl)
             | (with_reducible apply go_skipc)
             | (with_reducible apply go_block)
             | (with_reducible apply go_exit))
           | (with_reducible apply go_kseq)
           | (with_reducible apply go_ksuf)
           | (with_reducible apply go_kblock)
           | (with_reducible apply go_kblock_exit)
           | (with_reducible apply go_kseq_exit)
        all_goals try (exfalso; omega)
        · have hkeep : keepB l (i + 2 + c) = true := by
            rw [hk, ← g1 (by omega), ← g2 (by omega), Bool.not_eq_true']
            exact h
          refine go_store_om (f := encPt) (l := R) (a := R[i + 1 + (c + 1)]'(by omega)) rfl rfl rfl (by omega) rfl rfl rfl rfl (Nat.le_of_ble_eq_true rfl) rfl ?_
          rw [g1 (by omega), hl1, g3 hkeep]
          repeat' first
           | (with_reducible apply go_op)
           | (with_reducible apply go_next)
           | ((with_reducible (show evOp _ _ _ _ _ _)); first
             | (((with_reducible apply go_mv_int); rfl; rfl))
             | ((with_reducible apply go_as))
             | (((with_reducible apply go_add); rfl; rfl; rfl; omega)))
           | ((with_reducible (show evOps _ _ _ _ _ _)); first
             | (with_reducible apply go_nil))
           | ((with_reducible (show evG _ _ _ _ _)); first
             | (with_reducible apply go_region))
           | (with_reducible apply go_kseq)
           | (with_reducible apply go_kblock)
          refine ⟨by omega, by rw [show compT l (i + 2 + (c + 1)) = compT l (i + 2 + c + 1) from rfl, e1 hkeep]; omega, ?_⟩
          rw [show compT l (i + 2 + (c + 1)) = compT l (i + 2 + c + 1) from rfl, e1 hkeep]
          exact entailsK_eq (nx := 32) (k := 0) (ns := []) (ks := [5, 4, 3, 0]) [(0, 0)] (by simp) rfl (by simp) (by kernel_rfl)
        · have hkeep : keepB l (i + 2 + c) = false := by
            rw [hk, ← g1 (by omega), ← g2 (by omega), Bool.not_eq_false']
            exact h
          refine ⟨by omega, by rw [show compT l (i + 2 + (c + 1)) = compT l (i + 2 + c + 1) from rfl, e2 hkeep]; omega, ?_⟩
          rw [show compT l (i + 2 + (c + 1)) = compT l (i + 2 + c + 1) from rfl, e2 hkeep, show rowsC l (i + 2 + (c + 1)) = rowsC l (i + 2 + c + 1) from rfl, ← g4 hkeep]
          exact entailsK_eq (nx := 32) (k := 0) (ns := []) (ks := [5, 4, 3, 0]) [(0, 0)] (by simp) rfl (by simp) (by kernel_rfl)
      · intro hcl
        have e : i + 2 + c = l.length := by omega
        have hrl := rowsC_len (l := l) (m := i + 2 + c) (by omega)
        have ht := rowsC_take l (i + 2 + c)
        have hC' : compT l (i + 2 + c) = compL l := by rw [e]; rfl
        have hle := hcl
        rw [hC'] at ht hle ⊢
        clear hcl hC'
        generalize rowsC l (i + 2 + c) = R at *
        generalize hkk2 : (compL l).length = kk at *
        repeat' first
           | ((with_reducible (show evG _ _ (.region 14 _ _) _ _)); (with_reducible apply go_regionM))
           | ((with_reducible apply goM_clear); rfl; rfl; kernel_rfl; (exact scalR_pts _); (first | omega | (simp; omega)); rfl)
           | ((with_reducible apply go_drop_os); rfl; rfl; rfl; rfl; rfl; omega)
           | (with_reducible apply goM_op)
           | (with_reducible apply goM_next)
           | (with_reducible apply goM_nil)
           | (with_reducible apply go_op)
           | (with_reducible apply go_next)
           | ((with_reducible (show evOp _ _ _ _ _ _)); first
             | ((with_reducible (show evOp _ (.move _) _ _ _ _)) ; first | ((with_reducible apply go_mv_int); rfl; rfl) | ((with_reducible apply go_mv_os); rfl; rfl))
             | ((with_reducible apply go_as))
             | (((with_reducible apply go_index_own); rfl; rfl; rfl; rfl; rfl; omega))
             | (((with_reducible apply go_cmp); rfl; rfl; rfl; rfl))
             | (((with_reducible apply go_len_own); rfl; rfl; rfl))
             | (((with_reducible apply go_take_os); rfl; rfl; rfl; rfl; rfl; omega)))
           | ((with_reducible (show evOps _ _ _ _ _ _)); first
             | (with_reducible apply go_nil)
             | ((with_reducible apply go_pre); rfl))
           | ((with_reducible (show evG _ _ _ _ _)); first
             | (with_reducible apply go_seq)
             | (with_reducible apply go_region)
             | (((with_reducible apply go_cond); rfl) <;> (intro h; simp only [h]; try simp only [decide_eq_true_eq, decide_eq_false_iff_not, Bool.not_eq_true', Bool.not_eq_false', Bool.not_true, Bool.not_false] at h; try exact absurd trivial h))
             | ((with_reducible apply go_order); kernel_rfl; rfl)
             | (with_reducible apply go_ret)
             | (with_reducible apply go_skipc)
             | (with_reducible apply go_block)
             | (with_reducible apply go_exit))
           | (with_reducible apply go_kseq)
           | (with_reducible apply go_kseq_ret)
           | (with_reducible apply go_kblock_ret)
           | (with_reducible apply go_kblock_exit)
           | (with_reducible apply go_kseq_exit)
        all_goals try (exfalso; omega)
        refine ⟨[.os 0 0 kk], rfl, rfl, ?_⟩
        have hh : (R.map encPt).take (0 + ((kk : Nat) : Int).toNat) = (compL l).map encPt := by rw [← ht, List.map_take, Nat.zero_add, Int.toNat_natCast]
        show some (⟨2, true, (R.map encPt).take (0 + ((kk : Nat) : Int).toNat)⟩ : Blk) = _
        rw [hh]
    · refine ⟨by omega, fun j hj => ?_, entailsK_eq (nx := 32) (k := 0) (ns := []) (ks := [3, 0]) [(0, 0)] (by simp) rfl (by simp) (by kernel_rfl)⟩
      by_cases e : j < i + 1
      · exact hC j e
      · obtain rfl : j = i + 1 := by omega
        rw [hk, Bool.not_eq_true']
        unfold ptEq
        simp_all
  · have e : i + 1 = l.length := by omega
    have e2 : compL l = l := by
      unfold compL
      rw [compT_all (Nat.le_refl _) (fun j hj => hC j (by omega))]; exact List.take_length
    rw [e2]
    repeat' first
           | (with_reducible apply go_op)
           | (with_reducible apply go_next)
           | ((with_reducible (show evOp _ _ _ _ _ _)); first
             | ((with_reducible (show evOp _ (.move _) _ _ _ _)) ; first | ((with_reducible apply go_mv_int); rfl; rfl) | ((with_reducible apply go_mv_os); rfl; rfl))
             | ((with_reducible apply go_as))
             | (((with_reducible apply go_load_om); rfl; rfl; rfl; rfl; rotate_left; assumption))
             | ((with_reducible (show evOp _ (.indexAddr _ _ _) _ _ _ _)) ; first | ((with_reducible apply go_index_om); rfl; rfl; rfl; (with_reducible rfl); rfl; rfl; omega; (intro hlt)) | ((with_reducible apply go_index_own); rfl; rfl; rfl; rfl; rfl; omega))
             | ((with_reducible (show evOp _ (.binOp _ _ _ _ _) _ _ _ _)) ; first | ((with_reducible apply go_cmp); rfl; rfl; rfl; rfl) | ((with_reducible apply go_sub); rfl; rfl; rfl; omega))
             | (((with_reducible apply go_len_own); rfl; rfl; rfl)))
           | ((with_reducible (show evOps _ _ _ _ _ _)); first
             | (with_reducible apply go_nil)
             | ((with_reducible apply go_pre); rfl))
           | ((with_reducible (show evG _ _ _ _ _)); first
             | (with_reducible apply go_seq)
             | (with_reducible apply go_region)
             | (((with_reducible apply go_cond); rfl) <;> (intro h; simp only [h]; try simp only [decide_eq_true_eq, decide_eq_false_iff_not, Bool.not_eq_true', Bool.not_eq_false', Bool.not_true, Bool.not_false] at h; try exact absurd trivial h))
             | ((with_reducible apply go_order); kernel_rfl; rfl)
             | (with_reducible apply go_ret)
             | (with_reducible apply go_skipc)
             | (with_reducible apply go_block)
             | (with_reducible apply go_exit))
           | (with_reducible apply go_kseq)
           | (with_reducible apply go_kblock_exit)
           | (with_reducible apply go_kseq_exit)
    all_goals first
      | (exfalso; omega)
      | exact ⟨[.os 0 0 l.length], rfl, rfl, rfl⟩
      | trace_state
end Go.Pv.Geo

open Go Go.Proofs Go.Pv
set_option maxHeartbeats 8000000
set_option maxRecDepth 100000
set_option linter.unusedSimpArgs false
set_option linter.unusedVariables false
namespace Go.Pv.Geo
theorem c_Clone (l : List Pt) (hl : l.length ≤ 1000000000) : Contract Try.prog 107 [.sl (l.map encPt)] (.ret (.fr 2 (l.map encPt))) := by
  by_cases h0 : 0 < l.length
  · refine contract_of mix Try.func107 rfl rfl (by rw [Try.ntmps107]; exact Nat.le_of_ble_eq_true rfl) ?_; rw [Try.results107, Try.ntmps107]; simp only [argsE, Nat.reduceAdd]
    repeat' first
           | (with_reducible apply go_op)
           | (with_reducible apply go_next)
           | ((with_reducible (show evOp _ _ _ _ _ _)); first
             | ((with_reducible (show evOp _ (.move _) _ _ _ _)) ; first | ((with_reducible apply go_mv_sl); rfl; rfl) | ((with_reducible apply go_mv_nilsl); rfl; rfl))
             | ((with_reducible apply go_as)))
           | ((with_reducible (show evOps _ _ _ _ _ _)); first
             | (with_reducible apply go_nil))
           | ((with_reducible (show evG _ _ _ _ _)); first
             | (with_reducible apply go_seq)
             | (with_reducible apply go_region))
           | (with_reducible apply go_kseq)
    refine go_nileq_sl (f := encPt) rfl h0 rfl ?_
    repeat' first
           | (with_reducible apply go_op)
           | (with_reducible apply go_next)
           | ((with_reducible (show evOp _ _ _ _ _ _)); first
             | (((with_reducible apply go_mv_sl); rfl; rfl))
             | (((with_reducible apply go_bs0); rfl)))
           | ((with_reducible (show evOps _ _ _ _ _ _)); first
             | (with_reducible apply go_nil))
           | ((with_reducible (show evG _ _ _ _ _)); first
             | (with_reducible apply go_seq)
             | (with_reducible apply go_region)
             | ((with_reducible apply go_cond_f); rfl; rfl)
             | (with_reducible apply go_skipc))
           | (with_reducible apply go_kseq)
    refine go_app_sl (f := encPt) scalPt rfl rfl rfl (fun _ => rfl) (by kernel_rfl) (by kernel_rfl) hl rfl ?_
    repeat' first
           | (with_reducible apply go_op)
           | (with_reducible apply go_next)
           | ((with_reducible (show evOp _ _ _ _ _ _)); first
             | (((with_reducible apply go_mv_os); rfl; rfl))
             | ((with_reducible apply go_as)))
           | ((with_reducible (show evOps _ _ _ _ _ _)); first
             | (with_reducible apply go_nil))
           | ((with_reducible (show evG _ _ _ _ _)); first
             | (with_reducible apply go_ret))
           | (with_reducible apply go_kseq)
    exact end_frn rfl rfl rfl rfl
  · have hnil : l = [] := List.eq_nil_of_length_eq_zero (by omega)
    subst hnil
    refine contract_of mix Try.func107 rfl rfl (by rw [Try.ntmps107]; exact Nat.le_of_ble_eq_true rfl) ?_; rw [Try.results107, Try.ntmps107]; simp only [argsE, Nat.reduceAdd]
    repeat' first
           | (with_reducible apply go_op)
           | (with_reducible apply go_next)
           | ((with_reducible (show evOp _ _ _ _ _ _)); first
             | ((with_reducible (show evOp _ (.move _) _ _ _ _)) ; first | ((with_reducible apply go_mv_sl); rfl; rfl) | ((with_reducible apply go_mv_nilsl); rfl; rfl))
             | ((with_reducible apply go_as)))
           | ((with_reducible (show evOps _ _ _ _ _ _)); first
             | (with_reducible apply go_nil))
           | ((with_reducible (show evG _ _ _ _ _)); first
             | (with_reducible apply go_seq)
             | (with_reducible apply go_region))
           | (with_reducible apply go_kseq)
    refine go_nilcmp (bs := [true, false]) ?_ rfl ?_ rfl rfl ?_
    · simp only [op0]; rfl
    · rfl
    · intro b hb
      simp only [List.mem_cons, List.not_mem_nil, or_false] at hb
      rcases hb with rfl | rfl
      · repeat' first
           | (with_reducible apply go_op)
           | (with_reducible apply go_next)
           | ((with_reducible (show evOp _ _ _ _ _ _)); first
             | (((with_reducible apply go_mv_nilsl); rfl; rfl))
             | ((with_reducible apply go_as)))
           | ((with_reducible (show evOps _ _ _ _ _ _)); first
             | (with_reducible apply go_nil))
           | ((with_reducible (show evG _ _ _ _ _)); first
             | (with_reducible apply go_seq)
             | (with_reducible apply go_region)
             | ((with_reducible apply go_cond_t); rfl; rfl)
             | (with_reducible apply go_ret))
           | (with_reducible apply go_kseq)
           | (with_reducible apply go_kseq_ret)
        exact finK_ret (fin_nil1 rfl)
      · repeat' first
           | (with_reducible apply go_op)
           | (with_reducible apply go_next)
           | ((with_reducible (show evOp _ _ _ _ _ _)); first
             | (((with_reducible apply go_mv_sl); rfl; rfl))
             | (((with_reducible apply go_bs0); rfl)))
           | ((with_reducible (show evOps _ _ _ _ _ _)); first
             | (with_reducible apply go_nil))
           | ((with_reducible (show evG _ _ _ _ _)); first
             | (with_reducible apply go_seq)
             | (with_reducible apply go_region)
             | ((with_reducible apply go_cond_f); rfl; rfl)
             | (with_reducible apply go_skipc))
           | (with_reducible apply go_kseq)
        refine go_app_sl (f := encPt) (l := []) scalPt rfl rfl rfl (fun _ => rfl) (by kernel_rfl) (by kernel_rfl) (by simp) rfl ?_
        repeat' first
           | (with_reducible apply go_op)
           | (with_reducible apply go_next)
           | ((with_reducible (show evOp _ _ _ _ _ _)); first
             | (((with_reducible apply go_mv_os); rfl; rfl))
             | ((with_reducible apply go_as)))
           | ((with_reducible (show evOps _ _ _ _ _ _)); first
             | (with_reducible apply go_nil))
           | ((with_reducible (show evG _ _ _ _ _)); first
             | (with_reducible apply go_ret))
           | (with_reducible apply go_kseq)
        exact end_frn rfl rfl rfl rfl
/-- The hull of places: their list put in order, each once. -/
def ordL (l : List Pt) : List Pt := compL (sortPts l)
def hullR (l : List Pt) : List Pt := if (ordL l).length < 2 then ordL l else hullL (ordL l)
theorem sort_len (l : List Pt) : (sortPts l).length = l.length := List.length_mergeSort l
theorem ord_len (l : List Pt) : (ordL l).length ≤ l.length := by
  have := compT_le (sortPts l) (sortPts l).length
  unfold ordL compL
  rw [sort_len] at this ⊢; exact this
theorem sort_mem (l : List Pt) (p : Pt) : p ∈ sortPts l ↔ p ∈ l := List.mem_mergeSort
theorem comp_mem {l : List Pt} {p : Pt} (h : p ∈ compL l) : p ∈ l := by
  unfold compL compT at h
  obtain ⟨i, hi, rfl⟩ := List.mem_map.1 h
  have := (List.mem_filter.1 hi).1
  have hi := List.mem_range.1 this
  rw [List.getD_eq_getElem?_getD, List.getElem?_eq_getElem hi]
  exact List.getElem_mem hi
theorem ord_sub {l : List Pt} {p : Pt} (h : p ∈ ordL l) : p ∈ l := (sort_mem l p).1 (comp_mem h)
theorem chain_snoc (l : List Pt) (p : Pt) : chain (l ++ [p]) = p :: popS p (chain l) := by simp [chain, List.foldl_append]
theorem chain_take {l : List Pt} {k : Nat} (hk : k < l.length) : chain (l.take (k + 1)) = l[k] :: popS l[k] (chain (l.take k)) := by
  rw [List.take_add_one, List.getElem?_eq_getElem hk]
  exact chain_snoc _ _
theorem popS_len (p : Pt) : ∀ t : List Pt, (popS p t).length ≤ t.length
  | [] => Nat.le_refl _
  | [a] => Nat.le_refl _
  | b :: a :: t => by
    rw [popS]; split
    · have := popS_len p (a :: t); simp only [List.length_cons] at *; omega
    · exact Nat.le_refl _
theorem chain_len (l : List Pt) (k : Nat) (hk : k ≤ l.length) : (chain (l.take k)).length ≤ k := by
  induction k with
  | zero => simp [chain]
  | succ k ih =>
    rw [chain_take (by omega)]
    have := popS_len l[k] (chain (l.take k))
    have := ih (by omega)
    simp only [List.length_cons]; omega
theorem chain_mem {l : List Pt} {k : Nat} (hk : k ≤ l.length) {p : Pt} (h : p ∈ chain (l.take k)) : p ∈ l := by
  induction k with
  | zero => simp [chain] at h
  | succ k ih =>
    rw [chain_take (by omega)] at h
    rcases List.mem_cons.1 h with rfl | h
    · exact List.getElem_mem _
    · exact ih (by omega) (pop_mem h)
def outO (d : List Pt) : Nat → List Pt
  | 0 => []
  | 1 => (chain d).tail.reverse
  | _ => hullL d
def outL (d : List Pt) : Nat → List Pt
  | 0 => d
  | 1 => d.reverse
  | _ => d
theorem out_step (d : List Pt) {i : Nat} (hi : i < 2) : outO d (i + 1) = outO d i ++ (chain (outL d i)).tail.reverse ∧ outL d (i + 1) = (outL d i).reverse := by
  match i, hi with
  | 0, _ => exact ⟨rfl, rfl⟩
  | 1, _ => exact ⟨rfl, (List.reverse_reverse d).symm⟩
theorem outL_len (d : List Pt) (i : Nat) : (outL d i).length = d.length := by
  unfold outL; split <;> simp
theorem outL_mem (d : List Pt) (i : Nat) {p : Pt} (h : p ∈ outL d i) : p ∈ d := by
  unfold outL at h; split at h
  · exact h
  · simpa using h
  · exact h
/-- The rows of the corners' list while places are popped: two corners below the top. -/
theorem rows_two {base t u : List Pt} {a b : Pt} {R : List Pt} (hR : R = base ++ (u ++ b :: a :: t).reverse) : ∃ h : base.length + t.length + 1 < R.length, R[base.length + t.length]'(by omega) = a ∧ R[base.length + t.length + 1] = b := by
  have e : R = (base ++ t.reverse) ++ (a :: b :: u.reverse) := by rw [hR]; simp
  subst e
  refine ⟨by simp only [List.length_append, List.length_reverse, List.length_cons]; omega, ?_, ?_⟩
  · rw [List.getElem_append_right (by simp)]; simp
  · rw [List.getElem_append_right (by simp)]; simp
theorem rows_take {base s u : List Pt} {R : List Pt} (hR : R = base ++ (u ++ s).reverse) : R.take (base.length + s.length) = base ++ s.reverse := by
  have e : R = (base ++ s.reverse) ++ u.reverse := by rw [hR]; simp
  rw [e, List.take_append_of_le_length (by simp), List.take_of_length_le (by simp)]
theorem c_hull (l : List Pt) (hl : l.length ≤ 1000000) (hok : ∀ p ∈ l, ptOK p = true) : Contract Try.prog 78 [.sl (l.map encPt)] (.ret (.fr 2 ((hullR l).map encPt))) := by
  have y1 := c_Clone l (by omega)
  have y2 : ContractM Try.prog 108 [.os 0 0 l.length, .clo (.func 109) [] []] ⟨2, true, l.map encPt⟩ (.tup []) ⟨2, true, (sortPts l).map encPt⟩ := c_SortFunc l (by omega)
  have hsl := sort_len l
  have y3 : ContractM Try.prog 110 [.os 0 0 l.length] ⟨2, true, (sortPts l).map encPt⟩ (.os 0 0 (ordL l).length) ⟨2, true, (ordL l).map encPt⟩ := by
    have := c_Compact (sortPts l) (by omega)
    rw [hsl] at this; exact this
  refine contract_of mix Try.func78 rfl rfl (by rw [Try.ntmps78]; exact Nat.le_of_ble_eq_true rfl) ?_; rw [Try.results78, Try.ntmps78]; simp only [argsE, Nat.reduceAdd]
  repeat' first
           | ((with_reducible (show evG _ _ (.region 2 _ _) _ _)); (with_reducible apply go_regionM))
           | ((with_reducible (show evG _ _ (.region 3 _ _) _ _)); (with_reducible apply go_regionM))
           | ((with_reducible apply (goM_call (b := 64))); rfl; rfl; (exact scalR_pts _); rfl; rfl; (exact y2); rfl; rfl)
           | ((with_reducible apply (goM_call (b := 64))); rfl; rfl; (exact scalR_pts _); rfl; rfl; (exact y3); rfl; rfl)
           | (with_reducible apply goM_op)
           | (with_reducible apply goM_next)
           | (with_reducible apply goM_nil)
           | (with_reducible apply go_op)
           | (with_reducible apply go_next)
           | ((with_reducible (show evOp _ _ _ _ _ _)); first
             | ((with_reducible (show evOp _ (.move _) _ _ _ _)) ; first | ((with_reducible apply go_mv_int); rfl; rfl) | ((with_reducible apply go_mv_sl); rfl; rfl) | ((with_reducible apply go_mv_os); rfl; rfl) | ((with_reducible apply go_mv_nilsl); rfl; rfl))
             | ((with_reducible apply go_as))
             | (((with_reducible apply go_cmp); rfl; rfl; rfl; rfl))
             | ((with_reducible (show evOp _ (.call _) _ _ _ _)) ; first | ((with_reducible apply go_len_own); rfl; rfl; rfl) | ((with_reducible apply go_fn_fr); rfl; (exact y1); (exact scalPt); rfl)))
           | ((with_reducible (show evOps _ _ _ _ _ _)); first
             | (with_reducible apply go_nil))
           | ((with_reducible (show evG _ _ _ _ _)); first
             | (with_reducible apply go_seq)
             | (with_reducible apply go_region)
             | (((with_reducible apply go_cond); rfl) <;> (intro h; simp only [h]; try simp only [decide_eq_true_eq, decide_eq_false_iff_not, Bool.not_eq_true', Bool.not_eq_false', Bool.not_true, Bool.not_false] at h; try exact absurd trivial h))
             | (with_reducible apply go_ret)
             | (with_reducible apply go_skipc)
             | (with_reducible apply go_block))
           | (with_reducible apply go_kseq)
           | (with_reducible apply go_kseq_ret)
  · exact end_frn rfl (by kernel_rfl) rfl (if_pos (by omega)).symm
  have hol := ord_len l
  have hres : hullR l = outO (ordL l) 2 := if_neg (by omega)
  rw [hres]
  have hokd : ∀ p ∈ ordL l, ptOK p = true := fun p hp => hok p (ord_sub hp)
  clear y1 y2 y3 hsl hres
  generalize ordL l = d at *
  refine go_count 2 (fun i => ⟨[(3, .os 1 0 (outO d i).length), (17, .int .i64 i), (0, .os 0 0 d.length)], [(1, ⟨2, true, (outO d i).map encPt⟩), (0, ⟨2, true, (outL d i).map encPt⟩)], 32, 68⟩) (fun i => (outO d i).length ≤ i * d.length)
    (entails_eq (nx := 32) (k := 2) (ns := [(3, 1)]) (ks := [17, 0]) [(64, 0)] rfl (by intro p hp; obtain rfl : p = (3, 1) := (by simpa using hp); kernel_rfl) (by kernel_rfl)) (by simp [outO]) ?_
  intro i hi hC
  by_cases hlt : i < 2
  rotate_left
  · have e : i = 2 := by omega
    subst e
    repeat' first
           | (with_reducible apply go_op)
           | (with_reducible apply go_next)
           | ((with_reducible (show evOp _ _ _ _ _ _)); first
             | (((with_reducible apply go_mv_os); rfl; rfl))
             | ((with_reducible apply go_as))
             | (((with_reducible apply go_cmp); rfl; rfl; rfl; rfl)))
           | ((with_reducible (show evOps _ _ _ _ _ _)); first
             | (with_reducible apply go_nil))
           | ((with_reducible (show evG _ _ _ _ _)); first
             | (with_reducible apply go_seq)
             | (with_reducible apply go_region)
             | ((with_reducible apply go_cond_f); rfl; rfl)
             | (with_reducible apply go_ret)
             | (with_reducible apply go_exit))
           | (with_reducible apply go_kseq)
           | (with_reducible apply go_kblock_exit)
           | (with_reducible apply go_kseq_exit)
    all_goals first
      | (exfalso; omega)
      | exact end_frn rfl rfl rfl rfl
      | trace_state
  have hs := out_step d hlt
  have hL := outL_len d i
  have hLm := fun p (hp : p ∈ outL d i) => hokd p (outL_mem d i hp)
  rw [hs.1, hs.2]
  clear hs
  generalize outO d i = base at *
  generalize outL d i = d' at *
  repeat' first
           | (with_reducible apply go_op)
           | (with_reducible apply go_next)
           | ((with_reducible (show evOp _ _ _ _ _ _)); first
             | ((with_reducible (show evOp _ (.move _) _ _ _ _)) ; first | ((with_reducible apply go_mv_int); rfl; rfl) | ((with_reducible apply go_mv_os); rfl; rfl))
             | ((with_reducible apply go_as))
             | (((with_reducible apply go_cmp); rfl; rfl; rfl; rfl))
             | (((with_reducible apply go_len_own); rfl; rfl; rfl)))
           | ((with_reducible (show evOps _ _ _ _ _ _)); first
             | (with_reducible apply go_nil))
           | ((with_reducible (show evG _ _ _ _ _)); first
             | (with_reducible apply go_seq)
             | (with_reducible apply go_region)
             | (((with_reducible apply go_cond); rfl) <;> (intro h; simp only [h]; try simp only [decide_eq_true_eq, decide_eq_false_iff_not, Bool.not_eq_true', Bool.not_eq_false', Bool.not_true, Bool.not_false] at h; try exact absurd trivial h))
             | (with_reducible apply go_ret)
             | (with_reducible apply go_skipc)
             | (with_reducible apply go_block)
             | (with_reducible apply go_exit))
           | (with_reducible apply go_kseq)
           | (with_reducible apply go_kblock_exit)
           | (with_reducible apply go_kseq_exit)
  all_goals try (exfalso; omega)
  refine go_count d.length (fun k => ⟨[(23, .int .i64 k), (22, .int .i64 d.length), (21, .os 0 0 d.length), (17, .int .i64 i), (4, .int .i64 base.length), (3, .os 1 0 (base.length + (chain (d'.take k)).length)), (0, .os 0 0 d.length)], [(1, ⟨2, true, (base ++ (chain (d'.take k)).reverse).map encPt⟩), (0, ⟨2, true, d'.map encPt⟩)], 32, 68⟩) (fun k => True)
    (entails_eq (nx := 32) (k := 0) (ns := []) (ks := [23, 22, 21, 17, 4, 3, 0]) [(1, 1), (0, 0)] rfl (by simp) (by rw [show base ++ (chain (d'.take 0)).reverse = base by simp [chain]]; kernel_rfl)) trivial ?_
  intro k hk _
  by_cases hkl : k < d.length
  rotate_left
  · have e : k = d.length := by omega
    have hcl := chain_len d' d'.length (Nat.le_refl _)
    rw [List.take_length] at hcl
    obtain ⟨x, t, hxt⟩ : ∃ x t, chain d' = x :: t := by
      have h1 := chain_take (l := d') (k := d'.length - 1) (by omega)
      rw [show d'.length - 1 + 1 = d'.length by omega, List.take_length] at h1
      exact ⟨_, _, h1⟩
    have yr : ContractM Try.prog 111 [.os 0 0 d.length] ⟨2, true, d'.map encPt⟩ (.tup []) ⟨2, true, d'.reverse.map encPt⟩ := by
      have := c_Reverse d' (by omega)
      rw [hL] at this; exact this
    rw [show d'.take k = d' by rw [List.take_of_length_le (by omega)], hxt]
    rw [hxt, List.length_cons] at hcl
    have htk : ((base ++ (x :: t).reverse).map encPt).take (base.length + t.length) = (base ++ t.reverse).map encPt := by
      rw [← List.map_take]
      congr 1
      exact rows_take (base := base) (s := t) (u := [x]) rfl
    simp only [List.length_cons, List.tail_cons]
    have hb2 : i * d.length ≤ 2 * d.length := Nat.mul_le_mul_right _ hi
    repeat' first
           | ((with_reducible (show evG _ _ (.region 18 _ _) _ _)); (with_reducible apply go_regionM))
           | ((with_reducible apply (goM_call (b := 0))); rfl; rfl; (exact scalR_pts _); rfl; rfl; (exact yr); rfl; rfl)
           | (with_reducible apply goM_op)
           | (with_reducible apply goM_next)
           | (with_reducible apply goM_nil)
           | (with_reducible apply go_op)
           | (with_reducible apply go_next)
           | ((with_reducible (show evOp _ _ _ _ _ _)); first
             | ((with_reducible (show evOp _ (.move _) _ _ _ _)) ; first | ((with_reducible apply go_mv_int); rfl; rfl) | ((with_reducible apply go_mv_os); rfl; rfl))
             | ((with_reducible apply go_as))
             | (((with_reducible apply go_load_om); rfl; rfl; rfl; rfl; rotate_left; assumption))
             | (((with_reducible apply go_index_om); rfl; rfl; rfl; (with_reducible rfl); rfl; rfl; omega; (intro hlt)))
             | ((with_reducible (show evOp _ (.binOp _ _ _ _ _) _ _ _ _)) ; first | ((with_reducible apply go_cmp); rfl; rfl; rfl; rfl) | ((with_reducible apply go_add); rfl; rfl; rfl; omega) | ((with_reducible apply go_sub); rfl; rfl; rfl; omega))
             | (((with_reducible apply go_len_own); rfl; rfl; rfl))
             | (((with_reducible apply go_st_agg); rfl; rfl; rfl; rfl; rfl; rfl; rfl))
             | (((with_reducible apply go_take_os); rfl; rfl; rfl; rfl; rfl; omega))
             | (((with_reducible apply go_alloc); rfl; rfl; rfl)))
           | ((with_reducible (show evOps _ _ _ _ _ _)); first
             | (with_reducible apply go_nil))
           | ((with_reducible (show evG _ _ _ _ _)); first
             | (with_reducible apply go_seq)
             | (with_reducible apply go_region)
             | (((with_reducible apply go_cond); rfl) <;> (intro h; simp only [h]; try simp only [decide_eq_true_eq, decide_eq_false_iff_not, Bool.not_eq_true', Bool.not_eq_false', Bool.not_true, Bool.not_false] at h; try exact absurd trivial h))
             | (with_reducible apply go_skipc)
             | (with_reducible apply go_block)
             | (with_reducible apply go_exit))
           | (with_reducible apply go_kseq)
           | (with_reducible apply go_kblock)
           | (with_reducible apply go_kblock_exit)
           | (with_reducible apply go_kseq_exit)
    all_goals try (exfalso; omega)
    refine ⟨by omega, by rw [List.length_append, List.length_reverse, Nat.add_mul, Nat.one_mul]; omega, ?_⟩
    refine Entails.trans (entails_take (b := 1) (base.length + t.length) rfl (Nat.succ_pos 1)) ?_
    have en : (((base.length + (t.length + 1) : Nat) : Int) - 1).toNat = (base ++ t.reverse).length := by rw [List.length_append, List.length_reverse]; omega
    rw [en]
    show Entails ⟨_, updH 1 ⟨2, true, ((base ++ (x :: t).reverse).map encPt).take (base.length + t.length)⟩ _, _, _⟩ _
    rw [htk]
    exact entails_eq (nx := 32) (k := 0) (ns := []) (ks := [3, 17, 0]) [(1, 1), (0, 0)] rfl (by simp) (by kernel_rfl)
  have hlt' : k < d'.length := by omega
  have hct := chain_take hlt'
  have hcl := chain_len d' k (by omega)
  have hcm := fun p (hp : p ∈ chain (d'.take k)) => hLm p (chain_mem (by omega) hp)
  have hpo := hLm d'[k] (List.getElem_mem _)
  rw [hct]
  generalize chain (d'.take k) = s0 at *
  generalize hpk : d'[k] = p at *
  repeat' first
           | (with_reducible apply go_op)
           | (with_reducible apply go_next)
           | ((with_reducible (show evOp _ _ _ _ _ _)); first
             | (((with_reducible apply go_mv_os); rfl; rfl))
             | ((with_reducible apply go_as))
             | (((with_reducible apply go_load_om); rfl; rfl; rfl; rfl; rotate_left; assumption))
             | (((with_reducible apply go_index_om); rfl; rfl; rfl; (with_reducible rfl); rfl; rfl; omega; (intro hlt)))
             | ((with_reducible (show evOp _ (.binOp _ _ _ _ _) _ _ _ _)) ; first | ((with_reducible apply go_cmp); rfl; rfl; rfl; rfl) | ((with_reducible apply go_sub); rfl; rfl; rfl; omega))
             | (((with_reducible apply go_len_own); rfl; rfl; rfl))
             | (((with_reducible apply go_st_agg); rfl; rfl; rfl; rfl; rfl; rfl; rfl))
             | (((with_reducible apply go_take_os); rfl; rfl; rfl; rfl; rfl; omega))
             | (((with_reducible apply go_alloc); rfl; rfl; rfl)))
           | ((with_reducible (show evOps _ _ _ _ _ _)); first
             | (with_reducible apply go_nil))
           | ((with_reducible (show evG _ _ _ _ _)); first
             | (with_reducible apply go_seq)
             | (with_reducible apply go_region)
             | (((with_reducible apply go_cond); rfl) <;> (intro h; simp only [h]; try simp only [decide_eq_true_eq, decide_eq_false_iff_not, Bool.not_eq_true', Bool.not_eq_false', Bool.not_true, Bool.not_false] at h; try exact absurd trivial h))
             | (with_reducible apply go_skipc)
             | (with_reducible apply go_block)
             | (with_reducible apply go_exit))
           | (with_reducible apply go_kseq)
           | (with_reducible apply go_kblock_exit)
           | (with_reducible apply go_kseq_exit)
  all_goals try (exfalso; omega)
  have hb2 : i * d.length ≤ 2 * d.length := Nat.mul_le_mul_right _ hi
  refine go_while (σ := List Pt) List.length (fun s => ⟨[(6, .op 2 0 0), (23, .int .i64 k), (22, .int .i64 d.length), (21, .os 0 0 d.length), (17, .int .i64 i), (4, .int .i64 base.length), (3, .os 1 0 (base.length + s.length)), (0, .os 0 0 d.length)], [(1, ⟨2, true, (base ++ s0.reverse).map encPt⟩), (0, ⟨2, true, d'.map encPt⟩), (2, ⟨2, true, [encPt p]⟩)], 32, 68⟩) (fun s => ∃ u, s0 = u ++ s ∧ popS p s = popS p s0) s0
    (entails_eq (nx := 32) (k := 0) (ns := []) (ks := [6, 23, 22, 21, 17, 4, 3, 0]) [(1, 1), (0, 0), (128, 2)] rfl (by simp) (by rw [← hpk]; kernel_rfl)) ⟨[], rfl, rfl⟩ ?_
  rintro s ⟨u, hu, hpop⟩
  have hsl : s.length ≤ s0.length := by rw [hu, List.length_append]; omega
  have hR : base ++ s0.reverse = base ++ (u ++ s).reverse := by rw [hu]
  have hRt := rows_take (s := s) hR
  have hRl : (base ++ s0.reverse).length = base.length + s0.length := by simp
  have hend : popS p s0 = s → base ++ (p :: popS p s0).reverse = (base ++ s0.reverse).take (base.length + s.length) ++ [p] := fun e => by rw [hRt, e]; simp
  generalize base ++ s0.reverse = R at *
  match s, hu, hpop, hsl, hR, hRt, hend with
  | [], hu, hpop, hsl, hR, hRt, hend =>
    have e := hend (by rw [← hpop]; rfl)
    have hlen : (popS p s0).length = 0 := by rw [← hpop]; rfl
    simp only [List.length_nil] at *
    repeat' first
           | (with_reducible apply go_op)
           | (with_reducible apply go_next)
           | ((with_reducible (show evOp _ _ _ _ _ _)); first
             | ((with_reducible (show evOp _ (.move _) _ _ _ _)) ; first | ((with_reducible apply go_mv_int); rfl; rfl) | ((with_reducible apply go_mv_bool); rfl; rfl) | ((with_reducible apply go_mv_os); rfl; rfl))
             | (((with_reducible apply go_ld_agg); rfl; rfl; rfl; rfl))
             | (((with_reducible apply go_index_own); rfl; rfl; rfl; rfl; rfl; omega))
             | ((with_reducible (show evOp _ (.binOp _ _ _ _ _) _ _ _ _)) ; first | ((with_reducible apply go_cmp); rfl; rfl; rfl; rfl) | ((with_reducible apply go_add); rfl; rfl; rfl; omega) | ((with_reducible apply go_sub); rfl; rfl; rfl; omega))
             | (((with_reducible apply go_len_own); rfl; rfl; rfl))
             | (((with_reducible apply go_pick); rfl; rfl; rfl))
             | (((with_reducible apply go_bs1_agg); rfl; rfl; rfl; rfl; rfl; rfl)))
           | ((with_reducible (show evOps _ _ _ _ _ _)); first
             | (with_reducible apply go_nil)
             | ((with_reducible apply go_run); rfl; rfl)
             | ((with_reducible apply go_pass); rfl; rfl; rfl)
             | (((with_reducible apply go_guard); rfl) <;> (intro h; simp only [h, Bool.not_true, Bool.not_false]; (try with_reducible (refine ⟨rfl, ?_⟩)); try simp only [decide_eq_true_eq, decide_eq_false_iff_not, Bool.not_eq_true', Bool.not_eq_false', Bool.not_true, Bool.not_false] at h; try exact absurd trivial h))
             | ((with_reducible apply go_pre); rfl)
             | (with_reducible apply go_pre_nil)
             | ((with_reducible apply go_suf); rfl)
             | (with_reducible apply go_suf_nil))
           | ((with_reducible (show evG _ _ _ _ _)); first
             | (with_reducible apply go_seq)
             | (with_reducible apply go_region)
             | ((with_reducible apply go_cond_f); rfl; rfl)
             | ((with_reducible apply go_order); kernel_rfl; rfl)
             | (with_reducible apply go_exit))
           | (with_reducible apply go_kseq)
           | (with_reducible apply go_ksuf)
           | (with_reducible apply go_kblock_exit)
           | (with_reducible apply go_kseq_exit)
    all_goals try (exfalso; omega)
    refine go_app_mapt (f := encPt) (a := p) (l := R) (len := base.length + 0) scalPt rfl rfl rfl (by omega) rfl (by kernel_rfl) (by kernel_rfl) (by kernel_rfl) (by omega) rfl ?_
    rw [← e]
    repeat' first
           | (with_reducible apply go_op)
           | (with_reducible apply go_next)
           | ((with_reducible (show evOp _ _ _ _ _ _)); first
             | ((with_reducible (show evOp _ (.move _) _ _ _ _)) ; first | ((with_reducible apply go_mv_int); rfl; rfl) | ((with_reducible apply go_mv_os); rfl; rfl))
             | ((with_reducible apply go_as))
             | (((with_reducible apply go_add); rfl; rfl; rfl; omega)))
           | ((with_reducible (show evOps _ _ _ _ _ _)); first
             | (with_reducible apply go_nil))
           | ((with_reducible (show evG _ _ _ _ _)); first
             | (with_reducible apply go_region))
           | (with_reducible apply go_kseq)
           | (with_reducible apply go_kblock)
    refine ⟨by omega, trivial, ?_⟩
    rw [show base.length + (p :: popS p s0).length = (base.length + 0) + 1 by rw [List.length_cons, hlen]]
    exact entails_eq (nx := 32) (k := 0) (ns := []) (ks := [23, 22, 21, 17, 4, 3, 0]) [(1, 1), (0, 0)] rfl (by simp) (by kernel_rfl)
  | [a], hu, hpop, hsl, hR, hRt, hend =>
    have e := hend (by rw [← hpop]; rfl)
    have hlen : (popS p s0).length = 1 := by rw [← hpop]; rfl
    simp only [List.length_cons, List.length_nil] at *
    repeat' first
           | (with_reducible apply go_op)
           | (with_reducible apply go_next)
           | ((with_reducible (show evOp _ _ _ _ _ _)); first
             | ((with_reducible (show evOp _ (.move _) _ _ _ _)) ; first | ((with_reducible apply go_mv_int); rfl; rfl) | ((with_reducible apply go_mv_bool); rfl; rfl) | ((with_reducible apply go_mv_os); rfl; rfl))
             | (((with_reducible apply go_ld_agg); rfl; rfl; rfl; rfl))
             | (((with_reducible apply go_index_own); rfl; rfl; rfl; rfl; rfl; omega))
             | ((with_reducible (show evOp _ (.binOp _ _ _ _ _) _ _ _ _)) ; first | ((with_reducible apply go_cmp); rfl; rfl; rfl; rfl) | ((with_reducible apply go_add); rfl; rfl; rfl; omega) | ((with_reducible apply go_sub); rfl; rfl; rfl; omega))
             | (((with_reducible apply go_len_own); rfl; rfl; rfl))
             | (((with_reducible apply go_pick); rfl; rfl; rfl))
             | (((with_reducible apply go_bs1_agg); rfl; rfl; rfl; rfl; rfl; rfl)))
           | ((with_reducible (show evOps _ _ _ _ _ _)); first
             | (with_reducible apply go_nil)
             | ((with_reducible apply go_run); rfl; rfl)
             | ((with_reducible apply go_pass); rfl; rfl; rfl)
             | (((with_reducible apply go_guard); rfl) <;> (intro h; simp only [h, Bool.not_true, Bool.not_false]; (try with_reducible (refine ⟨rfl, ?_⟩)); try simp only [decide_eq_true_eq, decide_eq_false_iff_not, Bool.not_eq_true', Bool.not_eq_false', Bool.not_true, Bool.not_false] at h; try exact absurd trivial h))
             | ((with_reducible apply go_pre); rfl)
             | (with_reducible apply go_pre_nil)
             | ((with_reducible apply go_suf); rfl)
             | (with_reducible apply go_suf_nil))
           | ((with_reducible (show evG _ _ _ _ _)); first
             | (with_reducible apply go_seq)
             | (with_reducible apply go_region)
             | ((with_reducible apply go_cond_f); rfl; rfl)
             | ((with_reducible apply go_order); kernel_rfl; rfl)
             | (with_reducible apply go_exit))
           | (with_reducible apply go_kseq)
           | (with_reducible apply go_ksuf)
           | (with_reducible apply go_kblock_exit)
           | (with_reducible apply go_kseq_exit)
    all_goals try (exfalso; omega)
    refine go_app_mapt (f := encPt) (a := p) (l := R) (len := base.length + (0 + 1)) scalPt rfl rfl rfl (by omega) rfl (by kernel_rfl) (by kernel_rfl) (by kernel_rfl) (by omega) rfl ?_
    rw [← e]
    repeat' first
           | (with_reducible apply go_op)
           | (with_reducible apply go_next)
           | ((with_reducible (show evOp _ _ _ _ _ _)); first
             | ((with_reducible (show evOp _ (.move _) _ _ _ _)) ; first | ((with_reducible apply go_mv_int); rfl; rfl) | ((with_reducible apply go_mv_os); rfl; rfl))
             | ((with_reducible apply go_as))
             | (((with_reducible apply go_add); rfl; rfl; rfl; omega)))
           | ((with_reducible (show evOps _ _ _ _ _ _)); first
             | (with_reducible apply go_nil))
           | ((with_reducible (show evG _ _ _ _ _)); first
             | (with_reducible apply go_region))
           | (with_reducible apply go_kseq)
           | (with_reducible apply go_kblock)
    refine ⟨by omega, trivial, ?_⟩
    rw [show base.length + ((popS p s0).length + 1) = (base.length + (0 + 1)) + 1 by rw [hlen]]
    exact entails_eq (nx := 32) (k := 0) (ns := []) (ks := [23, 22, 21, 17, 4, 3, 0]) [(1, 1), (0, 0)] rfl (by simp) (by kernel_rfl)
  | b :: a :: t, hu, hpop, hsl, hR, hRt, hend =>
    obtain ⟨hx, ra, rb⟩ := rows_two hR
    have oka : ptOK a = true := hcm a (by rw [hu]; simp)
    have okb : ptOK b = true := hcm b (by rw [hu]; simp)
    have ia : R[0 + (base.length + t.length)]'(by omega) = a := by simpa using ra
    have ib : R[0 + (base.length + t.length + 1)]'(by omega) = b := by simpa using rb
    have yc := c_cross (R[0 + (base.length + t.length)]'(by omega)) (R[0 + (base.length + t.length + 1)]'(by omega)) p (by rw [ia]; exact oka) (by rw [ib]; exact okb) hpo
    have hcr : crossE (R[0 + (base.length + t.length)]'(by omega)) (R[0 + (base.length + t.length + 1)]'(by omega)) p = crossE a b p := by rw [ia, ib]
    clear ia ib ra rb
    simp only [List.length_cons] at *
    repeat' first
           | ((with_reducible apply (go_index_oq (i := (base.length + t.length)))); rfl; rfl; rfl; omega; rfl; rfl; (exact ⟨by omega, by omega⟩); (intro hlt))
           | ((with_reducible apply (go_index_oq (i := (base.length + t.length + 1)))); rfl; rfl; rfl; omega; rfl; rfl; (exact ⟨by omega, by omega⟩); (intro hlt))
           | (with_reducible apply go_op)
           | (with_reducible apply go_next)
           | ((with_reducible (show evOp _ _ _ _ _ _)); first
             | ((with_reducible (show evOp _ (.move _) _ _ _ _)) ; first | ((with_reducible apply go_mv_int); rfl; rfl) | ((with_reducible apply go_mv_bool); rfl; rfl) | ((with_reducible apply go_mv_os); rfl; rfl))
             | ((with_reducible apply go_as))
             | ((with_reducible (show evOp _ (.load _ _) _ _ _ _)) ; first | ((with_reducible apply go_load_om); rfl; rfl; rfl; rfl; rotate_left; assumption) | ((with_reducible apply go_ld_agg); rfl; rfl; rfl; rfl))
             | ((with_reducible (show evOp _ (.binOp _ _ _ _ _) _ _ _ _)) ; first | ((with_reducible apply go_cmp); rfl; rfl; rfl; rfl) | ((with_reducible apply go_add); rfl; rfl; rfl; omega) | ((with_reducible apply go_sub); rfl; rfl; rfl; omega))
             | ((with_reducible (show evOp _ (.call _) _ _ _ _)) ; first | ((with_reducible apply go_len_own); rfl; rfl; rfl) | ((with_reducible apply go_fn_int); rfl; (exact yc); rfl))
             | (((with_reducible apply go_take_os); rfl; rfl; rfl; rfl; rfl; omega))
             | (((with_reducible apply go_pick); rfl; rfl; rfl))
             | (((with_reducible apply go_bs1_agg); rfl; rfl; rfl; rfl; rfl; rfl)))
           | ((with_reducible (show evOps _ _ _ _ _ _)); first
             | (with_reducible apply go_nil)
             | ((with_reducible apply go_run); rfl; rfl)
             | ((with_reducible apply go_pass); rfl; rfl; rfl)
             | (((with_reducible apply go_guard); rfl) <;> (intro h; simp only [h, Bool.not_true, Bool.not_false]; (try with_reducible (refine ⟨rfl, ?_⟩)); try simp only [decide_eq_true_eq, decide_eq_false_iff_not, Bool.not_eq_true', Bool.not_eq_false', Bool.not_true, Bool.not_false] at h; try exact absurd trivial h))
             | ((with_reducible apply go_pre); rfl)
             | (with_reducible apply go_pre_nil)
             | ((with_reducible apply go_suf); rfl)
             | (with_reducible apply go_suf_nil))
           | ((with_reducible (show evG _ _ _ _ _)); first
             | (with_reducible apply go_seq)
             | (with_reducible apply go_region)
             | ((with_reducible apply go_cond_f); rfl; rfl)
             | (((with_reducible apply go_cond); rfl) <;> (intro h; simp only [h]; try simp only [decide_eq_true_eq, decide_eq_false_iff_not, Bool.not_eq_true', Bool.not_eq_false', Bool.not_true, Bool.not_false] at h; try exact absurd trivial h))
             | ((with_reducible apply go_order); kernel_rfl; rfl)
             | (with_reducible apply go_skipc)
             | (with_reducible apply go_block)
             | (with_reducible apply go_exit))
           | (with_reducible apply go_kseq)
           | (with_reducible apply go_ksuf)
           | (with_reducible apply go_kblock)
           | (with_reducible apply go_kblock_exit)
           | (with_reducible apply go_kseq_exit)
    all_goals try (exfalso; omega)
    · refine ⟨a :: t, by simp, ⟨u ++ [b], by rw [hu]; simp, by rw [← hpop]; conv => rhs; rw [popS, if_pos (by omega)]⟩, ?_⟩
      rw [show (((base.length + (t.length + 1 + 1) : Nat) : Int) - 1).toNat = base.length + (a :: t).length by rw [List.length_cons]; omega]
      exact entails_eq (nx := 32) (k := 0) (ns := []) (ks := [6, 23, 22, 21, 17, 4, 3, 0]) [(1, 1), (0, 0), (2, 2)] rfl (by simp) (by kernel_rfl)
    have hps : popS p s0 = b :: a :: t := by rw [← hpop, popS, if_neg (by omega)]
    have e := hend hps
    have hlen : (popS p s0).length = t.length + 1 + 1 := by rw [hps]; rfl
    refine go_app_mapt (f := encPt) (a := p) (l := R) (len := base.length + (t.length + 1 + 1)) scalPt rfl rfl rfl (by omega) rfl (by kernel_rfl) (by kernel_rfl) (by kernel_rfl) (by omega) rfl ?_
    rw [← e]
    repeat' first
           | (with_reducible apply go_op)
           | (with_reducible apply go_next)
           | ((with_reducible (show evOp _ _ _ _ _ _)); first
             | ((with_reducible (show evOp _ (.move _) _ _ _ _)) ; first | ((with_reducible apply go_mv_int); rfl; rfl) | ((with_reducible apply go_mv_os); rfl; rfl))
             | ((with_reducible apply go_as))
             | (((with_reducible apply go_add); rfl; rfl; rfl; omega)))
           | ((with_reducible (show evOps _ _ _ _ _ _)); first
             | (with_reducible apply go_nil))
           | ((with_reducible (show evG _ _ _ _ _)); first
             | (with_reducible apply go_region))
           | (with_reducible apply go_kseq)
           | (with_reducible apply go_kblock)
    refine ⟨by omega, trivial, ?_⟩
    rw [show base.length + ((popS p s0).length + 1) = (base.length + (t.length + 1 + 1)) + 1 by rw [hlen]; omega]
    exact entails_eq (nx := 32) (k := 0) (ns := []) (ks := [23, 22, 21, 17, 4, 3, 0]) [(1, 1), (0, 0)] rfl (by simp) (by kernel_rfl)
end Go.Pv.Geo

namespace Go.Pv.Geo
open Go Go.Proofs Go.Pv
/- The list in order, each once: strictly ordered, and with the same members; the hull of it. Plain. -/
theorem sort_sorted {l : List Pt} (hok : ∀ p ∈ l, ptOK p = true) : (sortPts l).Pairwise fun a b => key a ≤ key b := by
  have h : (sortPts l).Pairwise fun x y => (!(ltOf aheadE) y x) = true := by
    unfold sortPts sortBy
    refine List.pairwise_mergeSort ?_ ?_ l
    · intro a b c h1 h2
      rw [Bool.not_eq_true'] at *
      exact ahead_swo.ntrans c b a h2 h1
    · intro a b
      cases h : ltOf aheadE b a with
      | false => rfl
      | true =>
        cases h' : ltOf aheadE a b with
        | false => rfl
        | true => have := ahead_swo.trans a b a h' h; rw [ahead_swo.irrefl] at this; cases this
  refine List.Pairwise.imp_of_mem (fun {a b} ha hb hab => ?_) h
  rw [Bool.not_eq_true', ahead_lt, decide_eq_false_iff_not] at hab
  have h1 := hok a ((sort_mem l a).1 ha)
  have h2 := hok b ((sort_mem l b).1 hb)
  have := key_lt h2 h1
  apply Classical.byContradiction
  intro hn
  exact hab (this.1 (by omega))
theorem compT_get {l : List Pt} {m : Nat} (hm : m ≤ l.length) {p : Pt} (h : p ∈ compT l m) : ∃ j, ∃ hj : j < l.length, j < m ∧ p = l[j] := by
  unfold compT at h
  obtain ⟨i, hi, rfl⟩ := List.mem_map.1 h
  have hi := List.mem_range.1 (List.mem_filter.1 hi).1
  exact ⟨i, by omega, hi, by rw [List.getD_eq_getElem?_getD, List.getElem?_eq_getElem (by omega)]; rfl⟩
theorem comp_sorted {l : List Pt} (hok : ∀ p ∈ l, ptOK p = true) (hs : l.Pairwise fun a b => key a ≤ key b) : ∀ m, m ≤ l.length → (compT l m).Pairwise fun a b => key a < key b
  | 0, _ => by simp [compT]
  | m + 1, hm => by
    have ih := comp_sorted hok hs m (by omega)
    cases hk : keepB l m with
    | false => rw [compT_no hk]; exact ih
    | true =>
      rw [compT_yes hk, List.getD_eq_getElem?_getD, List.getElem?_eq_getElem (by omega)]
      refine List.pairwise_append.2 ⟨ih, by simp, fun a ha b hb => ?_⟩
      obtain rfl : b = l[m] := by simpa using hb
      obtain ⟨j, hj, hjm, rfl⟩ := compT_get (m := m) (by omega) ha
      have hm0 : 0 < m := by omega
      rw [keep_iff hm0 (by omega), Bool.not_eq_true'] at hk
      have hne : l[m] ≠ l[m - 1]'(by omega) := fun e => by rw [ptEq_iff.2 e] at hk; cases hk
      have h1 : key l[j] ≤ key (l[m - 1]'(by omega)) := by
        by_cases e : j = m - 1
        · subst e; exact Int.le_refl _
        · exact (List.pairwise_iff_getElem.1 hs) j (m - 1) (by omega) (by omega) (by omega)
      have h2 := (List.pairwise_iff_getElem.1 hs) (m - 1) m (by omega) (by omega) (by omega)
      have h3 : key (l[m - 1]'(by omega)) ≠ key l[m] := fun e => hne (key_inj (hok _ (List.getElem_mem _)) (hok _ (List.getElem_mem _)) e).symm
      omega
theorem comp_all {l : List Pt} : ∀ m, m ≤ l.length → ∀ j, (hj : j < l.length) → j < m → l[j] ∈ compT l m
  | 0, _, j, _, h => by omega
  | m + 1, hm, j, hj, h => by
    have ih := comp_all (l := l) m (by omega)
    cases hk : keepB l m with
    | true =>
      rw [compT_yes hk]
      by_cases e : j = m
      · subst e; rw [List.getD_eq_getElem?_getD, List.getElem?_eq_getElem hj]; simp
      · exact List.mem_append.2 (.inl (ih j hj (by omega)))
    | false =>
      rw [compT_no hk]
      by_cases e : j = m
      · subst e
        have hm0 : 0 < j := by
          apply Classical.byContradiction; intro hn
          have : j = 0 := by omega
          subst this; cases hk
        rw [keep_iff hm0 hj, Bool.not_eq_false'] at hk
        rw [ptEq_iff.1 hk]
        exact ih (j - 1) (by omega) (by omega)
      · exact ih j hj (by omega)
theorem ord_sorted {l : List Pt} (hok : ∀ p ∈ l, ptOK p = true) : (ordL l).Pairwise fun a b => key a < key b :=
  comp_sorted (fun p hp => hok p ((sort_mem l p).1 hp)) (sort_sorted hok) _ (Nat.le_refl _)
theorem ord_mem (l : List Pt) (p : Pt) : p ∈ ordL l ↔ p ∈ l := by
  refine ⟨ord_sub, fun h => ?_⟩
  obtain ⟨j, hj, rfl⟩ := List.getElem_of_mem ((sort_mem l p).2 h)
  exact comp_all _ (Nat.le_refl _) j hj hj
theorem hullR_of {l : List Pt} (hok : ∀ p ∈ l, ptOK p = true) (h2 : 2 ≤ (ordL l).length) : HullOf l (hullR l) ∧ (hullR l).head? = (ordL l).head? := by
  have h := hull_of (L := l) (ord_sorted hok) h2 (fun r => (ord_mem l r).symm)
  rw [show hullR l = hullL (ordL l) from if_neg (by omega)]
  exact h
theorem hullR_len {l : List Pt} (hok : ∀ p ∈ l, ptOK p = true) : (hullR l).length ≤ l.length := by
  by_cases h2 : 2 ≤ (ordL l).length
  · exact (hullR_of hok h2).1.len'
  · rw [show hullR l = ordL l from if_pos (by omega)]; exact ord_len l
end Go.Pv.Geo

open Go Go.Proofs Go.Pv
set_option maxHeartbeats 4000000
set_option maxRecDepth 100000
set_option linter.unusedSimpArgs false
set_option linter.unusedVariables false
namespace Go.Pv.Geo
def cr (b c d : Pt) : Int := (b.x - d.x) * (c.y - d.y) - (b.y - d.y) * (c.x - d.x)
def rdetE (a b c d : Pt) : Int := nrm a d * cr b c d - nrm b d * cr a c d + nrm c d * cr a b d
theorem rdet_eq (a b c d : Pt) : rdetE a b c d = detE a b c d := by
  simp only [rdetE, detE, nrm, cr, crs]; grind
theorem c_rInCircle (a b c d : Pt) (ka : ptOK a = true) (kb : ptOK b = true) (kc : ptOK c = true) (kd : ptOK d = true) (ha : nearE a d) (hb : nearE b d) (hc : nearE c d) : Contract Try.prog 24 [.agg (encPt a), .agg (encPt b), .agg (encPt c), .agg (encPt d)] (.ret (.int .i64 (signE (detE a b c d) * signE (crossE a b c)))) := by
  have m1 := mulN ha.1 ha.1
  have m2 := mulN hb.1 hb.1
  have m3 := mulN hc.1 hc.1
  have m4 := mulN ha.2 ha.2
  have m5 := mulN hb.2 hb.2
  have m6 := mulN hc.2 hc.2
  have x1 := mulN hb.1 hc.2
  have x2 := mulN hb.2 hc.1
  have x3 := mulN ha.1 hc.2
  have x4 := mulN ha.2 hc.1
  have x5 := mulN ha.1 hb.2
  have x6 := mulN ha.2 hb.1
  have k1 := pt_bd ka
  have k2 := pt_bd kb
  have k3 := pt_bd kc
  have k4 := pt_bd kd
  have t1 := mul_abs (u := (a.x - d.x) * (a.x - d.x) + (a.y - d.y) * (a.y - d.y)) (v := (b.x - d.x) * (c.y - d.y) - (b.y - d.y) * (c.x - d.x)) (A := 800000000) (B := 800000000) (by omega) (by omega)
  have t2 := mul_abs (u := (b.x - d.x) * (b.x - d.x) + (b.y - d.y) * (b.y - d.y)) (v := (a.x - d.x) * (c.y - d.y) - (a.y - d.y) * (c.x - d.x)) (A := 800000000) (B := 800000000) (by omega) (by omega)
  have t3 := mul_abs (u := (c.x - d.x) * (c.x - d.x) + (c.y - d.y) * (c.y - d.y)) (v := (a.x - d.x) * (b.y - d.y) - (a.y - d.y) * (b.x - d.x)) (A := 800000000) (B := 800000000) (by omega) (by omega)
  have hs := sign_mul (rdetE a b c d) (crossE a b c)
  have e : rdetE a b c d = ((a.x - d.x) * (a.x - d.x) + (a.y - d.y) * (a.y - d.y)) * ((b.x - d.x) * (c.y - d.y) - (b.y - d.y) * (c.x - d.x)) - ((b.x - d.x) * (b.x - d.x) + (b.y - d.y) * (b.y - d.y)) * ((a.x - d.x) * (c.y - d.y) - (a.y - d.y) * (c.x - d.x)) + ((c.x - d.x) * (c.x - d.x) + (c.y - d.y) * (c.y - d.y)) * ((a.x - d.x) * (b.y - d.y) - (a.y - d.y) * (b.x - d.x)) := rfl
  rw [← rdet_eq]
  rw [e] at hs ⊢
  refine contract_of mix Try.func24 rfl rfl (by rw [Try.ntmps24]; exact Nat.le_of_ble_eq_true rfl) ?_; rw [Try.results24, Try.ntmps24]; simp only [argsE, Nat.reduceAdd]
  repeat' first
           | (with_reducible apply go_op)
           | (with_reducible apply go_next)
           | ((with_reducible (show evOp _ _ _ _ _ _)); first
             | (((with_reducible apply go_mv_int); rfl; rfl))
             | ((with_reducible apply go_as))
             | ((with_reducible (show evOp _ (.load _ _) _ _ _ _)) ; first | ((with_reducible apply go_ld_agg); rfl; rfl; rfl; rfl) | ((with_reducible apply go_load_own); rfl; rfl; rfl; rfl))
             | (((with_reducible apply go_fieldAddr_own); rfl; rfl; rfl))
             | ((with_reducible (show evOp _ (.binOp _ _ _ _ _) _ _ _ _)) ; first | ((with_reducible apply go_add); rfl; rfl; rfl; omega) | ((with_reducible apply go_sub); rfl; rfl; rfl; omega) | ((with_reducible apply go_mul); rfl; rfl; rfl; omega))
             | ((with_reducible (show evOp _ (.call _) _ _ _ _)) ; first | ((with_reducible apply go_fn_int); rfl; (exact c_sign _); rfl) | ((with_reducible apply go_fn_int); rfl; (exact c_rorient a b c ka kb kc); rfl))
             | (((with_reducible apply go_bx_agg); rfl; rfl; (exact Nat.le_of_ble_eq_true rfl); rfl; rfl)))
           | ((with_reducible (show evOps _ _ _ _ _ _)); first
             | (with_reducible apply go_nil)
             | ((with_reducible apply go_pre); rfl)
             | (with_reducible apply go_pre_nil)
             | ((with_reducible apply go_suf); rfl)
             | (with_reducible apply go_suf_nil))
           | ((with_reducible (show evG _ _ _ _ _)); first
             | (with_reducible apply go_seq)
             | (with_reducible apply go_region)
             | ((with_reducible apply go_order); kernel_rfl; rfl)
             | (with_reducible apply go_ret))
           | (with_reducible apply go_kseq)
           | (with_reducible apply go_ksuf)
           | ((with_reducible apply end_int); rfl)
           | (with_reducible rfl)
end Go.Pv.Geo

set_option linter.unusedVariables false
set_option linter.unusedSimpArgs false
namespace Go.Pv.Geo
open Go Go.Proofs Go.Pv
/-! Which triangles belong to the triangulation: plain. -/
theorem near_l {l : List Pt} (hf : farL l = false) {p q : Pt} (hp : p ∈ l) (hq : q ∈ l) : nearE p q := by
  have h : ∀ x ∈ l, ∀ y ∈ l, farP x y = false := by
    intro x hx y hy
    cases e : farP x y
    · rfl
    · have : farL l = true := List.any_eq_true.2 ⟨x, hx, List.any_eq_true.2 ⟨y, hy, e⟩⟩
      rw [this] at hf; cases hf
  have h1 := h p hp q hq
  have h2 := h q hq p hp
  unfold farP at h1 h2
  simp at h1 h2
  simp only [nearE]
  omega
/-- A point that takes a triangle out; its first corner comes first. -/
def badP (a b c p : Pt) : Bool := decide (0 < detE a b c p) || (decide (detE a b c p = 0) && (decide (key p < key a) || decide (crossE b c p < 0)))
def belL (l : List Pt) (a b c : Pt) : Bool := !(l.any fun p => badP a b c p)
theorem bel_no {l : List Pt} {a b c p : Pt} (hp : p ∈ l) (h : badP a b c p = true) : belL l a b c = false := by
  unfold belL; rw [List.any_eq_true.2 ⟨p, hp, h⟩]; rfl
theorem bel_yes {l : List Pt} {a b c : Pt} (h : ∀ j (hj : j < l.length), badP a b c l[j] = false) : belL l a b c = true := by
  unfold belL
  rw [Bool.not_eq_true', List.any_eq_false]
  intro p hp
  obtain ⟨j, hj, rfl⟩ := List.getElem_of_mem hp
  rw [h j hj]; simp
/-- The corners turned round until the first one comes first. -/
def rot3 (t : Pt × Pt × Pt) : Pt × Pt × Pt := if key t.2.1 < key t.1 ∨ key t.2.2 < key t.1 then (t.2.1, t.2.2, t.1) else t
def rotT (a b c : Pt) : Nat → Pt × Pt × Pt
  | 0 => (a, b, c)
  | n + 1 => rot3 (rotT a b c n)
theorem rotT_mem {l : List Pt} {a b c : Pt} (ha : a ∈ l) (hb : b ∈ l) (hc : c ∈ l) : ∀ n, (rotT a b c n).1 ∈ l ∧ (rotT a b c n).2.1 ∈ l ∧ (rotT a b c n).2.2 ∈ l
  | 0 => ⟨ha, hb, hc⟩
  | n + 1 => by
    have h := rotT_mem ha hb hc n
    rw [rotT, rot3]
    split
    · exact ⟨h.2.1, h.2.2, h.1⟩
    · exact h
theorem ahead_neg {p q : Pt} (hp : ptOK p = true) (hq : ptOK q = true) : aheadE p q < 0 ↔ key p < key q := by
  have h : decide (aheadE p q < 0) = _ := ahead_lt p q
  rw [key_lt hp hq, ← decide_eq_decide, h]
/-- A point on the circle and on the line of two corners is one of them. -/
theorem det_line (a b c p : Pt) : detE a b c p = crossE b c p * dotE a b c - crossE a b c * dotE p b c := by
  simp only [detE, nrm, crs, crossE, dotE]; grind
theorem sq_line (p b c : Pt) : crossE b c p * crossE b c p + dotE p b c * dotE p b c = ((b.x - p.x) * (b.x - p.x) + (b.y - p.y) * (b.y - p.y)) * ((c.x - p.x) * (c.x - p.x) + (c.y - p.y) * (c.y - p.y)) := by
  simp only [crossE, dotE]; grind
theorem sq_nn (u : Int) : 0 ≤ u * u := by
  rcases Int.le_total 0 u with h | h
  · exact Int.mul_nonneg h h
  · exact Int.mul_nonneg_of_nonpos_of_nonpos h h
theorem sq_zero {u v : Int} (h : u * u + v * v = 0) : u = 0 ∧ v = 0 := by
  have h1 : 0 ≤ u * u := sq_nn u
  have h2 : 0 ≤ v * v := sq_nn v
  have h3 : u * u = 0 := by omega
  have h4 : v * v = 0 := by omega
  exact ⟨(Int.mul_eq_zero.1 h3).elim id id, (Int.mul_eq_zero.1 h4).elim id id⟩
theorem on_line {a b c p : Pt} (h0 : crossE a b c ≠ 0) (h1 : detE a b c p = 0) (h2 : crossE b c p = 0) : p = b ∨ p = c := by
  rw [det_line, h2, Int.zero_mul] at h1
  have h3 : dotE p b c = 0 := by
    have : crossE a b c * dotE p b c = 0 := by omega
    exact (Int.mul_eq_zero.1 this).resolve_left h0
  have h4 := sq_line p b c
  rw [h2, h3] at h4
  have h5 := Int.mul_eq_zero.1 (show _ = (0 : Int) from h4.symm.trans (by simp))
  rcases h5 with h | h
  · left; have := sq_zero h; cases p; cases b; simp only [Pt.mk.injEq]; simp only at this; omega
  · right; have := sq_zero h; cases p; cases c; simp only [Pt.mk.injEq]; simp only at this; omega
end Go.Pv.Geo

set_option linter.unusedVariables false
set_option linter.unusedSimpArgs false
namespace Go.Pv.Geo
open Go Go.Proofs Go.Pv
theorem cross_ne {a b c : Pt} (h : 0 < crossE a b c) : a ≠ b ∧ b ≠ c ∧ a ≠ c := by
  refine ⟨fun e => ?_, fun e => ?_, fun e => ?_⟩ <;> (subst e; simp only [crossE] at h; grind)
theorem rot_0 {a b c : Pt} (h1 : ¬ key b < key a) (h2 : ¬ key c < key a) : rotT a b c 2 = (a, b, c) := by
  have e : rot3 (a, b, c) = (a, b, c) := if_neg (by simp only; omega)
  rw [rotT, rotT, rotT, e, e]
theorem rot_1 {a b c : Pt} (h1 : key b < key a) (h2 : ¬ key c < key b) : rotT a b c 2 = (b, c, a) := by
  have e : rot3 (a, b, c) = (b, c, a) := if_pos (by simp only; omega)
  have e2 : rot3 (b, c, a) = (b, c, a) := if_neg (by simp only; omega)
  rw [rotT, rotT, rotT, e, e2]
theorem rot_2 {a b c : Pt} (h1 : key c < key a) (h2 : key c < key b) : rotT a b c 2 = (c, a, b) := by
  have e : rot3 (a, b, c) = (b, c, a) := if_pos (by simp only; omega)
  have e2 : rot3 (b, c, a) = (c, a, b) := if_pos (by simp only; omega)
  rw [rotT, rotT, rotT, e, e2]
end Go.Pv.Geo

open Go Go.Proofs Go.Pv
set_option maxHeartbeats 4000000
set_option maxRecDepth 100000
set_option linter.unusedSimpArgs false
set_option linter.unusedVariables false
namespace Go.Pv.Geo
structure Tri where
  a : Int
  b : Int
  c : Int
  deriving DecidableEq
def encTri (t : Tri) : List D := [.int .i64 t.a, .int .i64 t.b, .int .i64 t.c]
theorem scalTri : ScalF encTri 3 := fun _ => ⟨rfl, rfl⟩
/-- The error of points. -/
def chkE (l : List Pt) : Int := if 64 < l.length then 8 else if (l.any fun p => !ptOK p) = true then 2 else 0
theorem c_Check (l : List Pt) (hl : l.length < 1000000000000) : Contract Try.prog 27 [.sl (l.map encPt)] (.ret (.int .i64 (chkE l))) := by
  refine contract_of mix Try.func27 rfl rfl (by rw [Try.ntmps27]; exact Nat.le_of_ble_eq_true rfl) ?_; rw [Try.results27, Try.ntmps27]; simp only [argsE, Nat.reduceAdd]
  repeat' first
           | (with_reducible apply go_op)
           | (with_reducible apply go_next)
           | ((with_reducible (show evOp _ _ _ _ _ _)); first
             | ((with_reducible (show evOp _ (.move _) _ _ _ _)) ; first | ((with_reducible apply go_mv_int); rfl; rfl) | ((with_reducible apply go_mv_sl); rfl; rfl))
             | ((with_reducible apply go_as))
             | (((with_reducible apply go_cmp); rfl; rfl; rfl; rfl))
             | ((with_reducible (show evOp _ (.call _) _ _ _ _)) ; first | ((with_reducible apply go_len); rfl; rfl) | ((with_reducible apply go_fn_bool); rfl; (exact c_outside l hl); rfl)))
           | ((with_reducible (show evOps _ _ _ _ _ _)); first
             | (with_reducible apply go_nil))
           | ((with_reducible (show evG _ _ _ _ _)); first
             | (with_reducible apply go_seq)
             | (with_reducible apply go_region)
             | (((with_reducible apply go_cond); rfl) <;> (intro h; simp only [h]; try simp only [decide_eq_true_eq, decide_eq_false_iff_not, Bool.not_eq_true', Bool.not_eq_false', Bool.not_true, Bool.not_false] at h; try exact absurd trivial h))
             | (with_reducible apply go_ret)
             | (with_reducible apply go_skipc))
           | (with_reducible apply go_kseq)
           | (with_reducible apply go_kseq_ret)
           | ((with_reducible apply end_int); rfl)
  · unfold chkE; rw [if_pos (by omega)]
  · unfold chkE; rw [if_neg (by omega), if_pos (by assumption)]
  · unfold chkE; rw [if_neg (by omega), if_neg (by simp_all)]
theorem chk_ok {l : List Pt} (h : chkE l = 0) : l.length ≤ 64 ∧ ∀ p ∈ l, ptOK p = true := by
  unfold chkE at h
  split at h
  · cases h
  · split at h
    · cases h
    · rename_i h1 h2
      refine ⟨by omega, fun p hp => ?_⟩
      simp only [List.any_eq_true, not_exists, not_and] at h2
      simpa using h2 p hp
end Go.Pv.Geo

set_option linter.unusedVariables false
set_option linter.unusedSimpArgs false
namespace Go.Pv.Geo
open Go Go.Proofs Go.Pv
/-! The triangles in the order in which they are found, and sorted: plain. -/
/-- The lists of the first k, one behind the other. -/
def accF {α : Type} (f : Nat → List α) : Nat → List α
  | 0 => []
  | k + 1 => accF f k ++ f k
theorem accF_len {α : Type} {f : Nat → List α} {B : Nat} (h : ∀ i, (f i).length ≤ B) : ∀ k, (accF f k).length ≤ k * B
  | 0 => by simp [accF]
  | k + 1 => by
    have := accF_len h k
    have := h k
    rw [accF, List.length_append, Nat.add_mul, Nat.one_mul]; omega
theorem accF_mem {α : Type} {f : Nat → List α} {x : α} : ∀ {k}, x ∈ accF f k ↔ ∃ i, i < k ∧ x ∈ f i
  | 0 => by simp [accF]
  | k + 1 => by
    rw [accF, List.mem_append, accF_mem]
    constructor
    · rintro (⟨i, h, hx⟩ | hx)
      · exact ⟨i, by omega, hx⟩
      · exact ⟨k, by omega, hx⟩
    · rintro ⟨i, h, hx⟩
      by_cases e : i = k
      · subst e; exact .inr hx
      · exact .inl ⟨i, by omega, hx⟩
theorem accF_pw {α : Type} {R : α → α → Prop} {f : Nat → List α} : ∀ {k}, (∀ i, i < k → (f i).Pairwise R) → (∀ i j, i < j → j < k → ∀ x ∈ f i, ∀ y ∈ f j, R x y) → (accF f k).Pairwise R
  | 0, _, _ => List.Pairwise.nil
  | k + 1, h1, h2 => by
    rw [accF, List.pairwise_append]
    refine ⟨accF_pw (fun i h => h1 i (by omega)) (fun i j h h' => h2 i j h (by omega)), h1 k (by omega), fun x hx y hy => ?_⟩
    obtain ⟨i, hi, hx⟩ := accF_mem.1 hx
    exact h2 i k hi (by omega) x hx y hy
/-- A triangle of small numbers. -/
abbrev BT : Type := { t : Tri // (0 ≤ t.a ∧ t.a < 100) ∧ (0 ≤ t.b ∧ t.b < 100) ∧ 0 ≤ t.c ∧ t.c < 100 }
instance : Inhabited BT := ⟨⟨⟨0, 0, 0⟩, by simp⟩⟩
theorem BT.ext {x y : BT} (h1 : x.1.a = y.1.a) (h2 : x.1.b = y.1.b) (h3 : x.1.c = y.1.c) : x = y := by
  obtain ⟨⟨a, b, c⟩, h⟩ := x; obtain ⟨⟨d, e, f⟩, h'⟩ := y
  simp only at h1 h2 h3; subst h1 h2 h3; rfl
def mkB (a b c : Nat) : BT := if h : a < 100 ∧ b < 100 ∧ c < 100 then ⟨⟨a, b, c⟩, by simp only; omega⟩ else default
theorem mkB_val {a b c : Nat} (ha : a < 100) (hb : b < 100) (hc : c < 100) : (mkB a b c).1 = ⟨a, b, c⟩ := by
  rw [mkB, dif_pos ⟨ha, hb, hc⟩]
def ptL (l : List Pt) (i : Nat) : Pt := l.getD i ⟨0, 0⟩
theorem ptL_get {l : List Pt} {i : Nat} (h : i < l.length) : ptL l i = l[i] := by simp [ptL, List.getD_eq_getElem?_getD, h]
/-- The corners, counterclockwise, are a triangle of the triangulation. -/
def belT (l : List Pt) (a b c : Nat) : Bool := belL l (rotT (ptL l a) (ptL l b) (ptL l c) 2).1 (rotT (ptL l a) (ptL l b) (ptL l c) 2).2.1 (rotT (ptL l a) (ptL l b) (ptL l c) 2).2.2
def crT (l : List Pt) (a b c : Nat) : Int := crossE (ptL l a) (ptL l b) (ptL l c)
def yes (l : List Pt) (a b c : Nat) : Bool := decide (0 < crT l a b c) && belT l a b c
def T3 (l : List Pt) (a b c : Nat) : List BT := if 0 < crT l a b c then (if belT l a b c then [mkB a b c] else []) else if crT l a b c < 0 then (if belT l a c b then [mkB a c b] else []) else []
def R3 (l : List Pt) (a b c : Nat) : List BT := if yes l a b c = true then [mkB a b c] else []
def progB (l : List Pt) (a b : Nat) (k : Nat) : List BT := accF (fun m => T3 l a b (b + 1 + m)) k
def progA (l : List Pt) (a : Nat) (k : Nat) : List BT := accF (fun m => progB l a (a + 1 + m) (l.length - (a + 1 + m + 1))) k
def progL (l : List Pt) (k : Nat) : List BT := accF (fun a => progA l a (l.length - (a + 1))) k
def refB (l : List Pt) (a b : Nat) (k : Nat) : List BT := accF (fun m => R3 l a b (a + 1 + m)) k
def refA (l : List Pt) (a : Nat) (k : Nat) : List BT := accF (fun m => refB l a (a + 1 + m) (l.length - (a + 1))) k
def refL (l : List Pt) (k : Nat) : List BT := accF (fun a => refA l a (l.length - (a + 1))) k
theorem cr_swap (l : List Pt) (a b c : Nat) : crT l a c b = -crT l a b c := by
  unfold crT crossE; grind
theorem T3_len (l : List Pt) (a b c : Nat) : (T3 l a b c).length ≤ 1 := by unfold T3; (repeat' split) <;> simp
theorem R3_len (l : List Pt) (a b c : Nat) : (R3 l a b c).length ≤ 1 := by unfold R3; (repeat' split) <;> simp
theorem T3_mem {l : List Pt} {a b c : Nat} {x : BT} : x ∈ T3 l a b c ↔ (yes l a b c = true ∧ x = mkB a b c) ∨ (yes l a c b = true ∧ x = mkB a c b) := by
  have h := cr_swap l a b c
  unfold T3 yes
  by_cases h1 : 0 < crT l a b c
  · have h2 : ¬ 0 < crT l a c b := by omega
    rw [if_pos h1, decide_eq_true h1, decide_eq_false h2]
    split <;> simp_all
  · rw [if_neg h1]
    by_cases h2 : crT l a b c < 0
    · have h3 : 0 < crT l a c b := by omega
      rw [if_pos h2, decide_eq_true h3, decide_eq_false h1]
      split <;> simp_all
    · have h3 : ¬ 0 < crT l a c b := by omega
      rw [if_neg h2, decide_eq_false h1, decide_eq_false h3]
      simp
theorem R3_mem {l : List Pt} {a b c : Nat} {x : BT} : x ∈ R3 l a b c ↔ yes l a b c = true ∧ x = mkB a b c := by
  unfold R3; split <;> simp_all
theorem yes_ne {l : List Pt} {a b c : Nat} (h : yes l a b c = true) : a ≠ b ∧ b ≠ c ∧ a ≠ c := by
  unfold yes crT at h
  simp only [Bool.and_eq_true, decide_eq_true_eq] at h
  have := cross_ne h.1
  refine ⟨fun e => this.1 (by rw [e]), fun e => this.2.1 (by rw [e]), fun e => this.2.2 (by rw [e])⟩
theorem prog_mem {l : List Pt} {x : BT} : x ∈ progL l l.length ↔ ∃ a b c, a < l.length ∧ b < l.length ∧ c < l.length ∧ a < b ∧ a < c ∧ yes l a b c = true ∧ x = mkB a b c := by
  unfold progL progA progB
  simp only [accF_mem, T3_mem]
  constructor
  · rintro ⟨a, ha, m, hm, q, hq, h | h⟩
    · exact ⟨a, a + 1 + m, a + 1 + m + 1 + q, by omega, by omega, by omega, by omega, by omega, h⟩
    · exact ⟨a, a + 1 + m + 1 + q, a + 1 + m, by omega, by omega, by omega, by omega, by omega, h⟩
  · rintro ⟨a, b, c, ha, hb, hc, hab, hac, hy, hx⟩
    have hn := yes_ne hy
    rcases Nat.lt_or_gt_of_ne hn.2.1 with h | h
    · refine ⟨a, ha, b - (a + 1), by omega, c - (b + 1), by omega, .inl ?_⟩
      rw [show a + 1 + (b - (a + 1)) = b by omega, show b + 1 + (c - (b + 1)) = c by omega]
      exact ⟨hy, hx⟩
    · refine ⟨a, ha, c - (a + 1), by omega, b - (c + 1), by omega, .inr ?_⟩
      rw [show a + 1 + (c - (a + 1)) = c by omega, show c + 1 + (b - (c + 1)) = b by omega]
      exact ⟨hy, hx⟩
theorem ref_mem {l : List Pt} {x : BT} : x ∈ refL l l.length ↔ ∃ a b c, a < l.length ∧ b < l.length ∧ c < l.length ∧ a < b ∧ a < c ∧ yes l a b c = true ∧ x = mkB a b c := by
  unfold refL refA refB
  simp only [accF_mem, R3_mem]
  constructor
  · rintro ⟨a, ha, m, hm, q, hq, h⟩
    exact ⟨a, a + 1 + m, a + 1 + q, by omega, by omega, by omega, by omega, by omega, h⟩
  · rintro ⟨a, b, c, ha, hb, hc, hab, hac, hy, hx⟩
    refine ⟨a, ha, b - (a + 1), by omega, c - (a + 1), by omega, ?_⟩
    rw [show a + 1 + (b - (a + 1)) = b by omega, show a + 1 + (c - (a + 1)) = c by omega]
    exact ⟨hy, hx⟩
/-- The order of the triangles, and that no two are equal. -/
def ltB (x y : BT) : Prop := x.1.a < y.1.a ∨ (x.1.a = y.1.a ∧ (x.1.b < y.1.b ∨ (x.1.b = y.1.b ∧ x.1.c < y.1.c)))
theorem ref_sorted {l : List Pt} (hl : l.length ≤ 64) : (refL l l.length).Pairwise ltB := by
  have hv : ∀ {a b c : Nat}, a < 100 → b < 100 → c < 100 → (mkB a b c).1.a = a ∧ (mkB a b c).1.b = b ∧ (mkB a b c).1.c = c := fun ha hb hc => by
    rw [mkB_val ha hb hc]; exact ⟨rfl, rfl, rfl⟩
  refine accF_pw (fun a ha => accF_pw (fun m hm => accF_pw (fun q hq => ?_) ?_) ?_) ?_
  · unfold R3; split <;> simp
  · intro i j hij hj x hx y hy
    obtain ⟨-, rfl⟩ := R3_mem.1 hx
    obtain ⟨-, rfl⟩ := R3_mem.1 hy
    have h1 := hv (a := a) (b := a + 1 + m) (c := a + 1 + i) (by omega) (by omega) (by omega)
    have h2 := hv (a := a) (b := a + 1 + m) (c := a + 1 + j) (by omega) (by omega) (by omega)
    unfold ltB; omega
  · intro i j hij hj x hx y hy
    obtain ⟨p, hp, hx⟩ := accF_mem.1 hx
    obtain ⟨q, hq, hy⟩ := accF_mem.1 hy
    obtain ⟨-, rfl⟩ := R3_mem.1 hx
    obtain ⟨-, rfl⟩ := R3_mem.1 hy
    have h1 := hv (a := a) (b := a + 1 + i) (c := a + 1 + p) (by omega) (by omega) (by omega)
    have h2 := hv (a := a) (b := a + 1 + j) (c := a + 1 + q) (by omega) (by omega) (by omega)
    unfold ltB; omega
  · intro i j hij hj x hx y hy
    obtain ⟨p, hp, hx⟩ := accF_mem.1 hx
    obtain ⟨q, hq, hy⟩ := accF_mem.1 hy
    obtain ⟨p', hp', hx⟩ := accF_mem.1 hx
    obtain ⟨q', hq', hy⟩ := accF_mem.1 hy
    obtain ⟨-, rfl⟩ := R3_mem.1 hx
    obtain ⟨-, rfl⟩ := R3_mem.1 hy
    have h1 := hv (a := i) (b := i + 1 + p) (c := i + 1 + p') (by omega) (by omega) (by omega)
    have h2 := hv (a := j) (b := j + 1 + q) (c := j + 1 + q') (by omega) (by omega) (by omega)
    unfold ltB; omega
theorem mkB_inj {a b c d e f : Nat} (ha : a < 100) (hb : b < 100) (hc : c < 100) (hd : d < 100) (he : e < 100) (hf : f < 100) (h : mkB a b c = mkB d e f) : a = d ∧ b = e ∧ c = f := by
  have h1 := congrArg Subtype.val h
  rw [mkB_val ha hb hc, mkB_val hd he hf, Tri.mk.injEq] at h1
  omega
theorem prog_nodup {l : List Pt} (hl : l.length ≤ 64) : (progL l l.length).Nodup := by
  refine accF_pw (fun a ha => accF_pw (fun m hm => accF_pw (fun q hq => ?_) ?_) ?_) ?_
  · show List.Pairwise _ (T3 l a _ _)
    unfold T3; (repeat' split) <;> simp
  · intro i j hij hj x hx y hy e
    subst e
    rcases T3_mem.1 hx with ⟨-, e1⟩ | ⟨-, e1⟩ <;> rcases T3_mem.1 hy with ⟨-, e2⟩ | ⟨-, e2⟩ <;>
      have := mkB_inj (by omega) (by omega) (by omega) (by omega) (by omega) (by omega) (e1.symm.trans e2) <;> omega
  · intro i j hij hj x hx y hy e
    subst e
    obtain ⟨p, hp, hx⟩ := accF_mem.1 hx
    obtain ⟨q, hq, hy⟩ := accF_mem.1 hy
    rcases T3_mem.1 hx with ⟨-, e1⟩ | ⟨-, e1⟩ <;> rcases T3_mem.1 hy with ⟨-, e2⟩ | ⟨-, e2⟩ <;>
      have := mkB_inj (by omega) (by omega) (by omega) (by omega) (by omega) (by omega) (e1.symm.trans e2) <;> omega
  · intro i j hij hj x hx y hy e
    subst e
    obtain ⟨p, hp, hx⟩ := accF_mem.1 hx
    obtain ⟨q, hq, hy⟩ := accF_mem.1 hy
    obtain ⟨p', hp', hx⟩ := accF_mem.1 hx
    obtain ⟨q', hq', hy⟩ := accF_mem.1 hy
    rcases T3_mem.1 hx with ⟨-, e1⟩ | ⟨-, e1⟩ <;> rcases T3_mem.1 hy with ⟨-, e2⟩ | ⟨-, e2⟩ <;>
      have := mkB_inj (by omega) (by omega) (by omega) (by omega) (by omega) (by omega) (e1.symm.trans e2) <;> omega
end Go.Pv.Geo

/- The triangles of a patch are the lower faces of its points, lifted: plain. -/
set_option linter.unusedVariables false
set_option linter.unusedSimpArgs false
set_option maxRecDepth 100000
namespace Go.Pv.Geo
open Go Go.Proofs Go.Pv Cov
/-- The weights: the first points weigh most. -/
structure Wts (l : List Pt) (B : Int) (W : Nat → Int) (M C : Int) : Prop where
  b : 100000000000000 ≤ B
  pos : ∀ i, 0 < W i
  le : ∀ i, i < l.length → W i ≤ M
  lt : ∀ i j, i < l.length → j < l.length → key (ptL l i) < key (ptL l j) → B * W j ≤ W i
  c : B * M < C
  m : 0 < M
theorem pow_pos' {B : Int} (hB : 0 < B) : ∀ n : Nat, 0 < B ^ n
  | 0 => by rw [Int.pow_zero]; omega
  | n + 1 => by rw [Int.pow_succ]; exact Int.mul_pos (pow_pos' hB n) hB
theorem pow_le' {B : Int} (hB : 1 ≤ B) {m n : Nat} (h : m ≤ n) : B ^ m ≤ B ^ n := by
  obtain ⟨k, rfl⟩ : ∃ k, n = m + k := ⟨n - m, by omega⟩
  clear h
  induction k with
  | zero => exact Int.le_refl _
  | succ k ih =>
    rw [← Nat.add_assoc, Int.pow_succ]
    have h1 := pow_pos' (B := B) (by omega) (m + k)
    have h2 := Int.mul_le_mul_of_nonneg_left hB (Int.le_of_lt h1)
    omega
theorem wts_ex (l : List Pt) : ∃ B W M C, Wts l B W M C := by
  obtain ⟨B, hB⟩ : ∃ B : Int, B = 100000000000000 := ⟨_, rfl⟩
  obtain ⟨T, hT⟩ : ∃ T : Int, ∀ i, i < l.length → key (ptL l i) ≤ T ∧ -T ≤ key (ptL l i) := by
    have : ∀ n, ∃ T : Int, ∀ i, i < n → key (ptL l i) ≤ T ∧ -T ≤ key (ptL l i) := fun n => by
      induction n with
      | zero => exact ⟨0, fun i h => by omega⟩
      | succ n ih =>
        obtain ⟨T, h⟩ := ih
        refine ⟨max T (max (key (ptL l n)) (- key (ptL l n))), fun i hi => ?_⟩
        by_cases e : i = n
        · subst e; omega
        · have := h i (by omega); omega
    exact this _
  refine ⟨B, fun i => B ^ (T - key (ptL l i)).toNat, B ^ (2 * T).toNat, B * B ^ (2 * T).toNat + 1, by omega, fun i => pow_pos' (by omega) _, fun i hi => ?_, fun i j hi hj hk => ?_, by omega, pow_pos' (by omega) _⟩
  · have := hT i hi
    exact pow_le' (by omega) (by omega)
  · have := hT j hj
    have h1 : (T - key (ptL l j)).toNat + 1 ≤ (T - key (ptL l i)).toNat := by omega
    have h2 := pow_le' (B := B) (by omega) h1
    rw [Int.pow_succ, Int.mul_comm] at h2
    exact h2
/-- The points, lifted. -/
def cfg (l : List Pt) (W : Nat → Int) (C : Int) : Cfg := ⟨l.length, fun i => (ptL l i).x, fun i => (ptL l i).y, fun i => C * ((ptL l i).x * (ptL l i).x + (ptL l i).y * (ptL l i).y) - W i⟩
section
variable {l : List Pt} {B M C : Int} {W : Nat → Int}
/-- What the weights add. -/
def wab (l : List Pt) (W : Nat → Int) (a b c d : Nat) : Int := W d * crT l a b c - W a * crT l b c d - W b * crT l c a d - W c * crT l a b d
theorem cfg_ab (a b c d : Nat) : (cfg l W C).ab a b c d = - (C * detE (ptL l a) (ptL l b) (ptL l c) (ptL l d)) - wab l W a b c d := by
  simp only [cfg, Cfg.ab, Cfg.cr, wab, crT, crossE, detE, nrm, crs]
  grind
theorem cr_bd (hok : ∀ p ∈ l, ptOK p = true) {i j k : Nat} (hi : i < l.length) (hj : j < l.length) (hk : k < l.length) : -8000000000000 ≤ crT l i j k ∧ crT l i j k ≤ 8000000000000 := by
  have h := cross_bd (a := ptL l i) (b := ptL l j) (c := ptL l k) (hok _ (by rw [ptL_get hi]; exact List.getElem_mem _)) (hok _ (by rw [ptL_get hj]; exact List.getElem_mem _)) (hok _ (by rw [ptL_get hk]; exact List.getElem_mem _))
  unfold crT crossE
  omega
theorem w_mul {w u : Int} (hw : 0 ≤ w) (hu : -8000000000000 ≤ u ∧ u ≤ 8000000000000) : -(8000000000000 * w) ≤ w * u ∧ w * u ≤ 8000000000000 * w := by
  have h1 := Int.mul_le_mul_of_nonneg_left hu.2 hw
  have h2 := Int.mul_le_mul_of_nonneg_left hu.1 hw
  omega
theorem wab_bd (hw : Wts l B W M C) (hok : ∀ p ∈ l, ptOK p = true) {a b c d : Nat} (ha : a < l.length) (hb : b < l.length) (hc : c < l.length) (hd : d < l.length) : -C < wab l W a b c d ∧ wab l W a b c d < C := by
  have m1 := w_mul (Int.le_of_lt (hw.pos d)) (cr_bd hok ha hb hc)
  have m2 := w_mul (Int.le_of_lt (hw.pos a)) (cr_bd hok hb hc hd)
  have m3 := w_mul (Int.le_of_lt (hw.pos b)) (cr_bd hok hc ha hd)
  have m4 := w_mul (Int.le_of_lt (hw.pos c)) (cr_bd hok ha hb hd)
  have n1 := hw.le a ha
  have n2 := hw.le b hb
  have n3 := hw.le c hc
  have n4 := hw.le d hd
  have h1 := hw.c
  have h2 := Int.mul_le_mul_of_nonneg_right hw.b (Int.le_of_lt hw.m)
  unfold wab
  omega
/-- The first point of four decides. -/
theorem lead {B w w1 w2 w3 u u1 u2 u3 : Int} (hB : 100000000000000 ≤ B) (p1 : 0 < w1) (p2 : 0 < w2) (p3 : 0 < w3) (h1 : B * w1 ≤ w) (h2 : B * w2 ≤ w) (h3 : B * w3 ≤ w) (b1 : -8000000000000 ≤ u1 ∧ u1 ≤ 8000000000000) (b2 : -8000000000000 ≤ u2 ∧ u2 ≤ 8000000000000) (b3 : -8000000000000 ≤ u3 ∧ u3 ≤ 8000000000000) :
    (0 < u → 0 < w * u + w1 * u1 + w2 * u2 + w3 * u3) ∧ (u < 0 → w * u + w1 * u1 + w2 * u2 + w3 * u3 < 0) := by
  have m1 := w_mul (Int.le_of_lt p1) b1
  have m2 := w_mul (Int.le_of_lt p2) b2
  have m3 := w_mul (Int.le_of_lt p3) b3
  have e1 := Int.mul_le_mul_of_nonneg_right hB (Int.le_of_lt p1)
  have e2 := Int.mul_le_mul_of_nonneg_right hB (Int.le_of_lt p2)
  have e3 := Int.mul_le_mul_of_nonneg_right hB (Int.le_of_lt p3)
  constructor
  · intro hu
    have := Int.mul_le_mul_of_nonneg_left (show 1 ≤ u by omega) (show 0 ≤ w by omega)
    omega
  · intro hu
    have := Int.mul_le_mul_of_nonneg_left (show u ≤ -1 by omega) (show 0 ≤ w by omega)
    omega
theorem pt_ne (hn : l.Nodup) {i j : Nat} (hi : i < l.length) (hj : j < l.length) (h : i ≠ j) : ptL l i ≠ ptL l j := by
  rw [ptL_get hi, ptL_get hj]
  exact fun e => h ((List.getElem_inj hn).1 e)
theorem key_ne (hn : l.Nodup) (hok : ∀ p ∈ l, ptOK p = true) {i j : Nat} (hi : i < l.length) (hj : j < l.length) (h : i ≠ j) : key (ptL l i) ≠ key (ptL l j) := fun e => pt_ne hn hi hj h (key_inj (hok _ (by rw [ptL_get hi]; exact List.getElem_mem _)) (hok _ (by rw [ptL_get hj]; exact List.getElem_mem _)) e)
theorem det_rot (a b c p : Pt) : detE b c a p = detE a b c p := by simp only [detE, nrm, crs]; grind
/-- Not above, just if it takes the triangle out. -/
theorem ab_bad (hw : Wts l B W M C) (hok : ∀ p ∈ l, ptOK p = true) (hn : l.Nodup) {a b c d : Nat} (ha : a < l.length) (hb : b < l.length) (hc : c < l.length) (hd : d < l.length) (da : d ≠ a) (db : d ≠ b) (dc : d ≠ c) (hcr : 0 < crT l a b c) (kb : key (ptL l a) < key (ptL l b)) (kc : key (ptL l a) < key (ptL l c)) :
    (cfg l W C).ab a b c d ≠ 0 ∧ (0 < (cfg l W C).ab a b c d ↔ badP (ptL l a) (ptL l b) (ptL l c) (ptL l d) = false) := by
  have e := cfg_ab (l := l) (W := W) (C := C) a b c d
  have hbd := wab_bd hw hok ha hb hc hd
  have hC : 0 < C := by omega
  unfold badP
  rcases Int.lt_trichotomy (detE (ptL l a) (ptL l b) (ptL l c) (ptL l d)) 0 with h | h | h
  · have h1 := Int.mul_le_mul_of_nonneg_left (show detE (ptL l a) (ptL l b) (ptL l c) (ptL l d) ≤ -1 by omega) (Int.le_of_lt hC)
    have h2 : ¬ 0 < detE (ptL l a) (ptL l b) (ptL l c) (ptL l d) := by omega
    have h3 : ¬ detE (ptL l a) (ptL l b) (ptL l c) (ptL l d) = 0 := by omega
    rw [decide_eq_false h2, decide_eq_false h3]
    refine ⟨by omega, fun _ => rfl, fun _ => by omega⟩
  · have hx : crossE (ptL l b) (ptL l c) (ptL l d) ≠ 0 := fun e0 => (on_line (a := ptL l a) (by have : crossE (ptL l a) (ptL l b) (ptL l c) = crT l a b c := rfl; omega) h e0).elim (pt_ne hn hd hb db) (pt_ne hn hd hc dc)
    have hx' : crT l b c d = crossE (ptL l b) (ptL l c) (ptL l d) := rfl
    rw [h, Int.mul_zero] at e
    have kd := key_ne hn hok hd ha da
    have b1 := cr_bd hok ha hb hc
    have b2 := cr_bd hok hb hc hd
    have b3 := cr_bd hok hc ha hd
    have b4 := cr_bd hok ha hb hd
    rw [h]
    simp only [Int.lt_irrefl, decide_false, decide_true, Bool.false_or, Bool.true_and]
    by_cases hk : key (ptL l d) < key (ptL l a)
    · have hl := (lead (u := crT l a b c) (u1 := - crT l b c d) (u2 := - crT l c a d) (u3 := - crT l a b d) hw.b (hw.pos a) (hw.pos b) (hw.pos c) (hw.lt d a hd ha hk) (hw.lt d b hd hb (by omega)) (hw.lt d c hd hc (by omega)) (by omega) (by omega) (by omega)).1 hcr
      have ew : wab l W a b c d = W d * crT l a b c + W a * - crT l b c d + W b * - crT l c a d + W c * - crT l a b d := by unfold wab; grind
      rw [decide_eq_true hk]
      refine ⟨by omega, fun h => by omega, fun h => by cases h⟩
    · have hk' : key (ptL l a) < key (ptL l d) := by omega
      have hl := lead (u := crT l b c d) (u1 := - crT l a b c) (u2 := crT l c a d) (u3 := crT l a b d) hw.b (hw.pos d) (hw.pos b) (hw.pos c) (hw.lt a d ha hd hk') (hw.lt a b ha hb kb) (hw.lt a c ha hc kc) (by omega) (by omega) (by omega)
      have ew : - wab l W a b c d = W a * crT l b c d + W d * - crT l a b c + W b * crT l c a d + W c * crT l a b d := by unfold wab; grind
      rw [decide_eq_false hk, Bool.false_or]
      by_cases hs : crossE (ptL l b) (ptL l c) (ptL l d) < 0
      · have := hl.2 (by omega)
        rw [decide_eq_true hs]
        refine ⟨by omega, fun h => by omega, fun h => by cases h⟩
      · have := hl.1 (by omega)
        rw [decide_eq_false hs]
        refine ⟨by omega, fun _ => rfl, fun _ => by omega⟩
  · have h1 := Int.mul_le_mul_of_nonneg_left (show 1 ≤ detE (ptL l a) (ptL l b) (ptL l c) (ptL l d) by omega) (Int.le_of_lt hC)
    rw [decide_eq_true h]
    refine ⟨by omega, fun h => by omega, fun h => by cases h⟩
end
end Go.Pv.Geo

open Go Go.Proofs Go.Pv
set_option maxHeartbeats 8000000
set_option maxRecDepth 100000
set_option linter.unusedSimpArgs false
set_option linter.unusedVariables false
namespace Go.Pv.Geo
end Go.Pv.Geo

open Go Go.Proofs Go.Pv
set_option maxHeartbeats 8000000
set_option maxRecDepth 100000
set_option linter.unusedSimpArgs false
set_option linter.unusedVariables false
namespace Go.Pv.Geo
theorem c_belongs (l : List Pt) (hl : l.length ≤ 64) (hok : ∀ p ∈ l, ptOK p = true) (hf : farL l = false) (a b c : Pt) (ha : a ∈ l) (hb : b ∈ l) (hc : c ∈ l) :
    Contract Try.prog 113 [.sl (l.map encPt), .agg (encT3 a b c)] (.ret (.bool (belL l (rotT a b c 2).1 (rotT a b c 2).2.1 (rotT a b c 2).2.2))) := by
  have hm := rotT_mem ha hb hc
  refine contract_of mix Try.func113 rfl rfl (by rw [Try.ntmps113]; exact Nat.le_of_ble_eq_true rfl) ?_; rw [Try.results113, Try.ntmps113]; simp only [argsE, Nat.reduceAdd]
  repeat' first
           | (with_reducible apply go_op)
           | (with_reducible apply go_next)
           | ((with_reducible (show evOp _ _ _ _ _ _)); first
             | ((with_reducible (show evOp _ (.move _) _ _ _ _)) ; first | ((with_reducible apply go_mv_int); rfl; rfl) | ((with_reducible apply go_mv_bool); rfl; rfl))
             | ((with_reducible apply go_as))
             | (((with_reducible apply go_bx_agg); rfl; rfl; (exact Nat.le_of_ble_eq_true rfl); rfl; rfl)))
           | ((with_reducible (show evOps _ _ _ _ _ _)); first
             | (with_reducible apply go_nil))
           | ((with_reducible (show evG _ _ _ _ _)); first
             | (with_reducible apply go_seq)
             | (with_reducible apply go_region)
             | (with_reducible apply go_block))
           | (with_reducible apply go_kseq)
  all_goals try (exfalso; omega)
  refine go_count 2 (fun i => ⟨[(7, .int .i64 i), (3, .op 0 0 0), (0, .sl (l.map encPt))], [(0, ⟨6, true, [encT3 (rotT a b c i).1 (rotT a b c i).2.1 (rotT a b c i).2.2]⟩)], 32, 59⟩) (fun i => True)
    (entails_eq (nx := 32) (k := 0) (ns := []) (ks := [7, 3, 0]) [(0, 0)] rfl (by simp) (by kernel_rfl)) trivial ?_
  intro i hi _
  by_cases hlt : i < 2
  · have hst : rotT a b c (i + 1) = rot3 (rotT a b c i) := rfl
    have hmi := hm i
    generalize rotT a b c (i + 1) = r2 at *
    generalize rotT a b c i = r at *
    obtain ⟨x, y, z⟩ := r
    have k1 := c_ahead y x
    have k2 := c_ahead z x
    have s1 := ahead_neg (hok _ hmi.2.1) (hok _ hmi.1)
    have s2 := ahead_neg (hok _ hmi.2.2) (hok _ hmi.1)
    simp only at k1 k2 s1 s2 ⊢
    unfold rot3 at hst
    simp only [← s1, ← s2] at hst
    generalize aheadE y x = u at *
    generalize aheadE z x = v at *
    repeat' first
           | (with_reducible apply go_op)
           | (with_reducible apply go_next)
           | ((with_reducible (show evOp _ _ _ _ _ _)); first
             | ((with_reducible (show evOp _ (.move _) _ _ _ _)) ; first | ((with_reducible apply go_mv_int); rfl; rfl) | ((with_reducible apply go_mv_bool); rfl; rfl) | ((with_reducible apply go_mv_sl); rfl; rfl))
             | (((with_reducible apply go_load_own); rfl; rfl; rfl; rfl))
             | (((with_reducible apply go_index_arr); rfl; rfl; rfl; rfl; omega))
             | ((with_reducible (show evOp _ (.binOp _ _ _ _ _) _ _ _ _)) ; first | ((with_reducible apply go_cmp); rfl; rfl; rfl; rfl) | ((with_reducible apply go_add); rfl; rfl; rfl; omega))
             | ((with_reducible (show evOp _ (.call _) _ _ _ _)) ; first | ((with_reducible apply go_len); rfl; rfl) | ((with_reducible apply go_fn_int); rfl; (exact k1); rfl) | ((with_reducible apply go_fn_int); rfl; (exact k2); rfl))
             | (((with_reducible apply go_st_agg); rfl; rfl; rfl; rfl; rfl; rfl; rfl))
             | (((with_reducible apply go_pick); rfl; rfl; rfl))
             | (((with_reducible apply go_build); rfl; rfl)))
           | ((with_reducible (show evOps _ _ _ _ _ _)); first
             | (with_reducible apply go_nil)
             | ((with_reducible apply go_run); rfl; rfl)
             | ((with_reducible apply go_pass); rfl; rfl; rfl)
             | (((with_reducible apply go_guard); rfl) <;> (intro h; simp only [h, Bool.not_true, Bool.not_false]; (try with_reducible (refine ⟨rfl, ?_⟩)); try simp only [decide_eq_true_eq, decide_eq_false_iff_not, Bool.not_eq_true', Bool.not_eq_false', Bool.not_true, Bool.not_false] at h; try exact absurd trivial h)))
           | ((with_reducible (show evG _ _ _ _ _)); first
             | (with_reducible apply go_seq)
             | (with_reducible apply go_region)
             | ((with_reducible apply go_cond_t); rfl; rfl)
             | (((with_reducible apply go_cond); rfl) <;> (intro h; simp only [h]; try simp only [decide_eq_true_eq, decide_eq_false_iff_not, Bool.not_eq_true', Bool.not_eq_false', Bool.not_true, Bool.not_false] at h; try exact absurd trivial h))
             | (with_reducible apply go_skipc)
             | (with_reducible apply go_block)
             | (with_reducible apply go_exit))
           | (with_reducible apply go_kseq)
           | (with_reducible apply go_kblock)
           | (with_reducible apply go_kblock_exit)
           | (with_reducible apply go_kseq_exit)
    all_goals try (exfalso; omega)
    all_goals first
      | (refine ⟨hlt, trivial, ?_⟩
         rw [hst, if_pos (by omega)]
         exact entails_eq (nx := 32) (k := 0) (ns := []) (ks := [7, 3, 0]) [(0, 0)] rfl (by simp) (by kernel_rfl))
      | (refine ⟨hlt, trivial, ?_⟩
         rw [hst, if_neg (by omega)]
         exact entails_eq (nx := 32) (k := 0) (ns := []) (ks := [7, 3, 0]) [(0, 0)] rfl (by simp) (by kernel_rfl))
  · have e : i = 2 := by omega
    subst e
    have hmi := hm 2
    generalize rotT a b c 2 = r at *
    obtain ⟨x, y, z⟩ := r
    simp only at hmi ⊢
    repeat' first
           | (with_reducible apply go_op)
           | (with_reducible apply go_next)
           | ((with_reducible (show evOp _ _ _ _ _ _)); first
             | ((with_reducible (show evOp _ (.move _) _ _ _ _)) ; first | ((with_reducible apply go_mv_int); rfl; rfl) | ((with_reducible apply go_mv_sl); rfl; rfl))
             | (((with_reducible apply go_cmp); rfl; rfl; rfl; rfl))
             | (((with_reducible apply go_len); rfl; rfl)))
           | ((with_reducible (show evOps _ _ _ _ _ _)); first
             | (with_reducible apply go_nil))
           | ((with_reducible (show evG _ _ _ _ _)); first
             | (with_reducible apply go_seq)
             | (with_reducible apply go_region)
             | ((with_reducible apply go_cond_f); rfl; rfl)
             | (with_reducible apply go_block)
             | (with_reducible apply go_exit))
           | (with_reducible apply go_kseq)
           | (with_reducible apply go_kblock_exit)
           | (with_reducible apply go_kseq_exit)
    all_goals try (exfalso; omega)
    refine go_count l.length (fun i => ⟨[(33, .int .i64 i), (32, .int .i64 l.length), (31, .sl (l.map encPt)), (3, .op 0 0 0), (0, .sl (l.map encPt))], [(0, ⟨6, true, [encT3 x y z]⟩)], 32, 59⟩) (fun i => ∀ j (hj : j < l.length), j < i → badP x y z l[j] = false)
      (entails_eq (nx := 32) (k := 0) (ns := []) (ks := [33, 32, 31, 3, 0]) [(0, 0)] rfl (by simp) (by kernel_rfl)) (fun j hj h => absurd h (Nat.not_lt_zero _)) ?_
    intro j hj hC
    by_cases hlj : j < l.length
    · have hp : l[j] ∈ l := List.getElem_mem hlj
      have hop := hok _ hp
      have k1 := c_circle x y z l[j] (hok _ hmi.1) (hok _ hmi.2.1) (hok _ hmi.2.2) hop (near_l hf hmi.1 hp) (near_l hf hmi.2.1 hp) (near_l hf hmi.2.2 hp)
      have k2 := c_ahead l[j] x
      have k3 := c_cross y z l[j] (hok _ hmi.2.1) (hok _ hmi.2.2) hop
      have s2 := ahead_neg hop (hok _ hmi.1)
      have hno : badP x y z l[j] = true → belL l x y z = false := bel_no hp
      have hbd : badP x y z l[j] = (decide (signE (detE x y z l[j]) = 1) || (decide (signE (detE x y z l[j]) = 0) && (decide (aheadE l[j] x < 0) || decide (crossE y z l[j] < 0)))) := by
        unfold badP
        simp only [show (0 < detE x y z l[j]) = (signE (detE x y z l[j]) = 1) from propext (by unfold signE; (repeat' split) <;> omega), show (detE x y z l[j] = 0) = (signE (detE x y z l[j]) = 0) from propext (by unfold signE; (repeat' split) <;> omega), show (key l[j] < key x) = (aheadE l[j] x < 0) from propext s2.symm]
      clear s2
      generalize signE (detE x y z l[j]) = u at *
      generalize aheadE l[j] x = v at *
      generalize crossE y z l[j] = w at *
      repeat' first
           | (with_reducible apply go_op)
           | (with_reducible apply go_next)
           | ((with_reducible (show evOp _ _ _ _ _ _)); first
             | ((with_reducible (show evOp _ (.move _) _ _ _ _)) ; first | ((with_reducible apply go_mv_int); rfl; rfl) | ((with_reducible apply go_mv_bool); rfl; rfl))
             | ((with_reducible apply go_as))
             | ((with_reducible (show evOp _ (.load _ _) _ _ _ _)) ; first | ((with_reducible apply go_ld_ptr); rfl; rfl; rfl) | ((with_reducible apply go_ld_agg); rfl; rfl; rfl; rfl) | ((with_reducible apply go_load_own); rfl; rfl; rfl; rfl))
             | ((with_reducible (show evOp _ (.indexAddr _ _ _) _ _ _ _)) ; first | ((with_reducible apply go_index_arr); rfl; rfl; rfl; rfl; omega) | ((with_reducible apply go_index_nat); rfl; rfl; (with_reducible rfl); (intro; rfl); rfl; omega; (intro hlt)))
             | ((with_reducible (show evOp _ (.binOp _ _ _ _ _) _ _ _ _)) ; first | ((with_reducible apply go_cmp); rfl; rfl; rfl; rfl) | ((with_reducible apply go_add); rfl; rfl; rfl; omega))
             | ((with_reducible (show evOp _ (.call _) _ _ _ _)) ; first | ((with_reducible apply go_fn_int); rfl; (exact k1); rfl) | ((with_reducible apply go_fn_int); rfl; (exact k2); rfl) | ((with_reducible apply go_fn_int); rfl; (exact k3); rfl))
             | (((with_reducible apply go_st_agg); rfl; rfl; rfl; rfl; rfl; rfl; rfl))
             | (((with_reducible apply go_pick); rfl; rfl; rfl))
             | (((with_reducible apply go_alloc); rfl; rfl; rfl)))
           | ((with_reducible (show evOps _ _ _ _ _ _)); first
             | (with_reducible apply go_nil)
             | ((with_reducible apply go_run); rfl; rfl)
             | ((with_reducible apply go_pass); rfl; rfl; rfl)
             | (((with_reducible apply go_guard); rfl) <;> (intro h; simp only [h, Bool.not_true, Bool.not_false]; (try with_reducible (refine ⟨rfl, ?_⟩)); try simp only [decide_eq_true_eq, decide_eq_false_iff_not, Bool.not_eq_true', Bool.not_eq_false', Bool.not_true, Bool.not_false] at h; try exact absurd trivial h)))
           | ((with_reducible (show evG _ _ _ _ _)); first
             | (with_reducible apply go_seq)
             | (with_reducible apply go_region)
             | ((with_reducible apply go_cond_t); rfl; rfl)
             | (((with_reducible apply go_cond); rfl) <;> (intro h; simp only [h]; try simp only [decide_eq_true_eq, decide_eq_false_iff_not, Bool.not_eq_true', Bool.not_eq_false', Bool.not_true, Bool.not_false] at h; try exact absurd trivial h))
             | (with_reducible apply go_ret)
             | (with_reducible apply go_skipc)
             | (with_reducible apply go_block)
             | (with_reducible apply go_exit))
           | (with_reducible apply go_kseq)
           | (with_reducible apply go_kseq_ret)
           | (with_reducible apply go_kblock)
           | (with_reducible apply go_kblock_ret)
           | (with_reducible apply go_kblock_exit)
           | (with_reducible apply go_kseq_exit)
           | ((with_reducible apply end_bool); rfl)
      all_goals try (exfalso; omega)
      all_goals first
        | exact (hno (by rw [hbd]; simp [*])).symm
        | (refine ⟨hlj, fun k hk hkj => ?_, entails_eq (nx := 32) (k := 0) (ns := []) (ks := [33, 32, 31, 3, 0]) [(0, 0)] rfl (by simp) (by kernel_rfl)⟩
           rcases Nat.lt_succ_iff_lt_or_eq.1 hkj with h' | rfl
           · exact hC k hk h'
           · rw [hbd]; simp [*])
    · have hy : belL l x y z = true := bel_yes fun k hk => hC k hk (by omega)
      rw [hy]
      repeat' first
           | (with_reducible apply go_op)
           | (with_reducible apply go_next)
           | ((with_reducible (show evOp _ _ _ _ _ _)); first
             | (((with_reducible apply go_mv_bool); rfl; rfl))
             | ((with_reducible apply go_as))
             | ((with_reducible (show evOp _ (.load _ _) _ _ _ _)) ; first | ((with_reducible apply go_ld_ptr); rfl; rfl; rfl) | ((with_reducible apply go_ld_agg); rfl; rfl; rfl; rfl))
             | (((with_reducible apply go_index_nat); rfl; rfl; (with_reducible rfl); (intro; rfl); rfl; omega; (intro hlt)))
             | (((with_reducible apply go_cmp); rfl; rfl; rfl; rfl))
             | (((with_reducible apply go_st_agg); rfl; rfl; rfl; rfl; rfl; rfl; rfl))
             | (((with_reducible apply go_alloc); rfl; rfl; rfl)))
           | ((with_reducible (show evOps _ _ _ _ _ _)); first
             | (with_reducible apply go_nil))
           | ((with_reducible (show evG _ _ _ _ _)); first
             | (with_reducible apply go_seq)
             | (with_reducible apply go_region)
             | (((with_reducible apply go_cond); rfl) <;> (intro h; simp only [h]; try simp only [decide_eq_true_eq, decide_eq_false_iff_not, Bool.not_eq_true', Bool.not_eq_false', Bool.not_true, Bool.not_false] at h; try exact absurd trivial h))
             | (with_reducible apply go_ret)
             | (with_reducible apply go_skipc)
             | (with_reducible apply go_block)
             | (with_reducible apply go_exit))
           | (with_reducible apply go_kseq)
           | (with_reducible apply go_kblock_exit)
           | (with_reducible apply go_kseq_exit)
           | ((with_reducible apply end_bool); rfl)
           | (with_reducible rfl)
      all_goals first
        | (exfalso; omega)
        | rfl
        | trace_state
end Go.Pv.Geo

open Go Go.Proofs Go.Shelf
set_option maxRecDepth 100000
namespace Go.Pv.Geo
def sortTri_ren : Go.Shelf.Ren := ⟨fun | 6 => 114 | 15 => 126 | 14 => 128 | 28 => 138 | 29 => 139 | 20 => 140 | 21 => 141 | 22 => 142 | 23 => 143 | 24 => 144 | 25 => 145 | 26 => 146 | 27 => 147 | 46 => 153 | 47 => 149 | 48 => 150 | 49 => 154 | 50 => 155 | 57 => 157 | n => n, fun | 22 => 41 | 24 => 47 | 25 => 117 | 3 => 3 | 39 => 123 | 0 => 0 | 53 => 135 | 55 => 137 | 4 => 4 | 46 => 128 | 45 => 127 | 50 => 132 | 5 => 5 | 9 => 9 | 66 => 143 | 70 => 147 | 76 => 151 | 77 => 55 | n => n, fun | n => n⟩
theorem sortTri : SlLaysF0.n6 Try.prog sortTri_ren := {
  mixed := by kernel_rfl,
  f6 := ⟨Try.f114.name, by decide, Try.func114.trans (congrArg some (by kernel_rfl))⟩,
  f14 := ⟨Try.f128.name, by decide, Try.func128.trans (congrArg some (by kernel_rfl))⟩,
  f15 := Try.func126.trans (congrArg some (by kernel_rfl)),
  f20 := ⟨Try.f140.name, by decide, Try.func140.trans (congrArg some (by kernel_rfl))⟩,
  f21 := ⟨Try.f141.name, by decide, Try.func141.trans (congrArg some (by kernel_rfl))⟩,
  f22 := ⟨Try.f142.name, by decide, Try.func142.trans (congrArg some (by kernel_rfl))⟩,
  f23 := ⟨Try.f143.name, by decide, Try.func143.trans (congrArg some (by kernel_rfl))⟩,
  f24 := ⟨Try.f144.name, by decide, Try.func144.trans (congrArg some (by kernel_rfl))⟩,
  f25 := ⟨Try.f145.name, by decide, Try.func145.trans (congrArg some (by kernel_rfl))⟩,
  f26 := ⟨Try.f146.name, by decide, Try.func146.trans (congrArg some (by kernel_rfl))⟩,
  f27 := ⟨Try.f147.name, by decide, Try.func147.trans (congrArg some (by kernel_rfl))⟩,
  f28 := Try.func138.trans (congrArg some (by kernel_rfl)),
  f29 := Try.func139.trans (congrArg some (by kernel_rfl)),
  f46 := ⟨Try.f153.name, by decide, Try.func153.trans (congrArg some (by kernel_rfl))⟩,
  f47 := Try.func149.trans (congrArg some (by kernel_rfl)),
  f48 := Try.func150.trans (congrArg some (by kernel_rfl)),
  f49 := ⟨Try.f154.name, by decide, Try.func154.trans (congrArg some (by kernel_rfl))⟩,
  f50 := ⟨Try.f155.name, by decide, Try.func155.trans (congrArg some (by kernel_rfl))⟩,
  f57 := ⟨Try.f157.name, by decide, Try.func157.trans (congrArg some (by kernel_rfl))⟩,
  t0 := Try.underlying0,
  a0 := Try.isAgg0,
  z0 := Try.sizeOf0,
  v0 := Try.zeroValue0,
  t3 := Try.underlying3,
  a3 := Try.isAgg3,
  z3 := Try.sizeOf3,
  v3 := Try.zeroValue3,
  t4 := Try.underlying4,
  a4 := Try.isAgg4,
  z4 := Try.sizeOf4,
  v4 := Try.zeroValue4,
  t5 := Try.underlying5,
  a5 := Try.isAgg5,
  z5 := Try.sizeOf5,
  v5 := Try.zeroValue5,
  t9 := Try.underlying9,
  a9 := Try.isAgg9,
  z9 := Try.sizeOf9,
  v9 := Try.zeroValue9,
  t22 := Try.underlying41,
  a22 := Try.isAgg41,
  z22 := Try.sizeOf41,
  v22 := Try.zeroValue41,
  t25 := Try.underlying117,
  a25 := Try.isAgg117,
  z25 := Try.sizeOf117,
  v25 := Try.zeroValue117,
  t39 := Try.underlying123,
  a39 := Try.isAgg123,
  z39 := Try.sizeOf123,
  v39 := Try.zeroValue123,
  t45 := Try.underlying127,
  a45 := Try.isAgg127,
  z45 := Try.sizeOf127,
  v45 := Try.zeroValue127,
  t46 := Try.underlying128,
  a46 := Try.isAgg128,
  z46 := Try.sizeOf128,
  v46 := Try.zeroValue128,
  t50 := Try.underlying132,
  a50 := Try.isAgg132,
  z50 := Try.sizeOf132,
  v50 := Try.zeroValue132,
  t53 := Try.underlying135,
  a53 := Try.isAgg135,
  z53 := Try.sizeOf135,
  v53 := Try.zeroValue135,
  t55 := Try.underlying137,
  a55 := Try.isAgg137,
  z55 := Try.sizeOf137,
  v55 := Try.zeroValue137,
  t66 := Try.underlying143,
  a66 := Try.isAgg143,
  z66 := Try.sizeOf143,
  v66 := Try.zeroValue143,
  t70 := Try.underlying147,
  a70 := Try.isAgg147,
  z70 := Try.sizeOf147,
  v70 := Try.zeroValue147,
  t76 := Try.underlying151,
  a76 := Try.isAgg151,
  z76 := Try.sizeOf151,
  v76 := Try.zeroValue151,
  t77 := Try.underlying55,
  a77 := Try.isAgg55,
  z77 := Try.sizeOf55,
  v77 := Try.zeroValue55 }
end Go.Pv.Geo

open Go Go.Proofs Go.Pv
set_option maxHeartbeats 8000000
set_option maxRecDepth 100000
set_option linter.unusedSimpArgs false
set_option linter.unusedVariables false
namespace Go.Pv.Geo
def cmpB (x y : BT) : Int := orE [x.1.a - y.1.a, x.1.b - y.1.b, x.1.c - y.1.c]
theorem or3 (a b c : Int) : orE [a, b, c] = if a ≠ 0 then a else if b ≠ 0 then b else c := by
  unfold orE
  by_cases ha : a = 0 <;> by_cases hb : b = 0 <;> by_cases hc : c = 0 <;> simp [ha, hb, hc, List.find?]
instance (x y : BT) : Decidable (ltB x y) := by unfold ltB; infer_instance
theorem cmpB_lt (x y : BT) : ltOf cmpB x y = decide (ltB x y) := by
  unfold ltOf cmpB ltB
  rw [or3]
  refine decide_eq_decide.2 ?_
  (repeat' split) <;> omega
theorem cmpB_swo : Go.Sort.SWO (ltOf cmpB) where
  irrefl x := by rw [cmpB_lt]; simp [ltB]
  trans x y z h1 h2 := by rw [cmpB_lt, decide_eq_true_eq] at *; unfold ltB at *; omega
  ntrans x y z h1 h2 := by rw [cmpB_lt, decide_eq_false_iff_not] at *; unfold ltB at *; omega
theorem cmpB_tot (x y : BT) (h1 : ltOf cmpB x y = false) (h2 : ltOf cmpB y x = false) : x = y := by
  rw [cmpB_lt, decide_eq_false_iff_not] at *
  unfold ltB at *
  exact BT.ext (by omega) (by omega) (by omega)
theorem sort_ref {l : List Pt} (hl : l.length ≤ 64) : sortBy cmpB (progL l l.length) = refL l l.length := by
  have hs : (sortBy cmpB (progL l l.length)).Pairwise fun x y => (!(ltOf cmpB) y x) = true := by
    unfold sortBy
    refine List.pairwise_mergeSort ?_ ?_ _
    · intro a b c h1 h2
      rw [Bool.not_eq_true'] at *
      exact cmpB_swo.ntrans c b a h2 h1
    · intro a b
      cases h : ltOf cmpB b a with
      | false => rfl
      | true =>
        cases h' : ltOf cmpB a b with
        | false => rfl
        | true => have := cmpB_swo.trans a b a h' h; rw [cmpB_swo.irrefl] at this; cases this
  have hr : (refL l l.length).Pairwise fun x y => (!(ltOf cmpB) y x) = true := (ref_sorted hl).imp fun {x y} h => by
    rw [Bool.not_eq_true', cmpB_lt, decide_eq_false_iff_not]; unfold ltB at *; omega
  have hnr : (refL l l.length).Nodup := (ref_sorted hl).imp fun {x y} h e => by subst e; unfold ltB at h; omega
  refine List.Perm.eq_of_pairwise (fun x y _ _ h1 h2 => ?_) hs hr ((List.mergeSort_perm _ _).trans ((List.perm_ext_iff_of_nodup (prog_nodup hl) hnr).2 fun x => prog_mem.trans ref_mem.symm))
  rw [Bool.not_eq_true'] at h1 h2
  exact cmpB_tot x y h2 h1
def encB (t : BT) : List D := encTri t.1
theorem c_cmpB (x y : BT) : Contract Try.prog 115 [.agg (encB x), .agg (encB y)] (.ret (.int .i64 (cmpB x y))) := by
  have h := x.2
  have h' := y.2
  have k := c_Or3 (x.1.a - y.1.a) (x.1.b - y.1.b) (x.1.c - y.1.c)
  show Contract _ _ [.agg (encTri x.1), .agg (encTri y.1)] (.ret (.int .i64 (orE [x.1.a - y.1.a, x.1.b - y.1.b, x.1.c - y.1.c])))
  generalize x.1 = t at *
  generalize y.1 = u at *
  refine contract_of mix Try.func115 rfl rfl (by rw [Try.ntmps115]; exact Nat.le_of_ble_eq_true rfl) ?_; rw [Try.results115, Try.ntmps115]; simp only [argsE, Nat.reduceAdd]
  repeat' first
           | ((with_reducible apply go_bs3_int); rfl; rfl; rfl; rfl; rfl)
           | (with_reducible apply go_op)
           | (with_reducible apply go_next)
           | ((with_reducible (show evOp _ _ _ _ _ _)); first
             | (((with_reducible apply go_mv_int); rfl; rfl))
             | ((with_reducible apply go_as))
             | (((with_reducible apply go_load_own); rfl; rfl; rfl; rfl))
             | (((with_reducible apply go_fieldAddr_own); rfl; rfl; rfl))
             | (((with_reducible apply go_sub); rfl; rfl; rfl; omega))
             | (((with_reducible apply go_fn_int); (exact purL_os rfl (by simp) rfl); (exact k); rfl))
             | (((with_reducible apply go_bx_agg); rfl; rfl; (exact Nat.le_of_ble_eq_true rfl); rfl; rfl)))
           | ((with_reducible (show evOps _ _ _ _ _ _)); first
             | (with_reducible apply go_nil))
           | ((with_reducible (show evG _ _ _ _ _)); first
             | (with_reducible apply go_seq)
             | (with_reducible apply go_region)
             | (with_reducible apply go_ret))
           | (with_reducible apply go_kseq)
           | ((with_reducible apply end_int); rfl)
           | (with_reducible rfl)
theorem c_SortTri (l : List BT) (hl : l.length < 4611686018427387904) : ContractM Try.prog 114 [.os 0 0 l.length, .clo (.func 115) [] []] ⟨3, true, l.map encB⟩ (.tup []) ⟨3, true, (sortBy cmpB l).map encB⟩ :=
  contractM_sort sortTri 3 (by decide) Try.isAgg47 Try.sizeOf47 (fun t : BT => [t.1.a, t.1.b, t.1.c]) (fun _ => rfl) cmpB cmpB_swo cmpB_tot 115 (enters_of Try.func115 (by kernel_rfl) rfl)
    (fun x y => c_cmpB x y) ⟨_, Try.func114, by kernel_rfl, by kernel_rfl⟩ l hl
end Go.Pv.Geo

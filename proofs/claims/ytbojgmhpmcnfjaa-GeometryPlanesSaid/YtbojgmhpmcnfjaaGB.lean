import Derived.Test.YtbojgmhpmcnfjaaProg
import Derived.Test.YtbojgmhpmcnfjaaGA
import Derived.KernelRfl
/- Part of the proofs over Ytbojgmhpmcnfjaa: H2, H3, H4. -/
set_option linter.unusedVariables false
set_option linter.unusedSimpArgs false
set_option linter.unnecessarySimpa false
open Go Go.Proofs Go.Pv
set_option maxHeartbeats 4000000
set_option maxRecDepth 100000
set_option linter.unusedSimpArgs false
set_option linter.unusedVariables false
namespace Go.Pv.Geo
def encT3 (a b c : Pt) : List D := [.int .i64 a.x, .int .i64 a.y, .int .i64 b.x, .int .i64 b.y, .int .i64 c.x, .int .i64 c.y]
def pre3 (u v w : Int) : Nat → List D
  | 0 => [.int .i64 0, .int .i64 0, .int .i64 0]
  | 1 => [.int .i64 u, .int .i64 0, .int .i64 0]
  | 2 => [.int .i64 u, .int .i64 v, .int .i64 0]
  | _ => [.int .i64 u, .int .i64 v, .int .i64 w]
def nrm (a d : Pt) : Int := (a.x - d.x) * (a.x - d.x) + (a.y - d.y) * (a.y - d.y)
def crs (b c d : Pt) : Int := (b.x - d.x) * (c.y - d.y) - (c.x - d.x) * (b.y - d.y)
def detE (a b c d : Pt) : Int := 0 + nrm a d * crs b c d + nrm b d * crs c a d + nrm c d * crs a b d
def detP (u v w : Int) : Nat → Int
  | 0 => 0
  | 1 => 0 + u
  | 2 => 0 + u + v
  | _ => 0 + u + v + w
def nearE (a d : Pt) : Prop := (-20000 ≤ a.x - d.x ∧ a.x - d.x ≤ 20000) ∧ -20000 ≤ a.y - d.y ∧ a.y - d.y ≤ 20000
theorem mulN {u v : Int} (hu : -20000 ≤ u ∧ u ≤ 20000) (hv : -20000 ≤ v ∧ v ≤ 20000) : -400000000 ≤ u * v ∧ u * v ≤ 400000000 := by
  have := mul_abs hu hv; omega
theorem nrm_bd {a d : Pt} (h : nearE a d) : -800000000 ≤ nrm a d ∧ nrm a d ≤ 800000000 := by
  have h1 := mulN h.1 h.1
  have h2 := mulN h.2 h.2
  unfold nrm; omega
theorem crs_bd {b c d : Pt} (h : nearE b d) (h' : nearE c d) : -800000000 ≤ crs b c d ∧ crs b c d ≤ 800000000 := by
  have h1 := mulN h.1 h'.2
  have h2 := mulN h'.1 h.2
  unfold crs; omega
theorem term_bd {a b c d : Pt} (ha : nearE a d) (hb : nearE b d) (hc : nearE c d) : -640000000000000000 ≤ nrm a d * crs b c d ∧ nrm a d * crs b c d ≤ 640000000000000000 := by
  have := mul_abs (nrm_bd ha) (crs_bd hb hc); omega
theorem c_circle (a b c d : Pt) (ka : ptOK a = true) (kb : ptOK b = true) (kc : ptOK c = true) (kd : ptOK d = true) (ha : nearE a d) (hb : nearE b d) (hc : nearE c d) : Contract Try.prog 76 [.agg (encT3 a b c), .agg (encPt d)] (.ret (.int .i64 (signE (detE a b c d)))) := by
  have t1 := term_bd ha hb hc
  have t2 := term_bd hb hc ha
  have t3 := term_bd hc ha hb
  have n1 := nrm_bd ha
  have n2 := nrm_bd hb
  have n3 := nrm_bd hc
  have m1 := mulN ha.1 ha.1
  have m2 := mulN hb.1 hb.1
  have m3 := mulN hc.1 hc.1
  have m4 := mulN ha.2 ha.2
  have m5 := mulN hb.2 hb.2
  have m6 := mulN hc.2 hc.2
  have x1 := mulN hb.1 hc.2
  have x2 := mulN hc.1 hb.2
  have x3 := mulN hc.1 ha.2
  have x4 := mulN ha.1 hc.2
  have x5 := mulN ha.1 hb.2
  have x6 := mulN hb.1 ha.2
  have k1 := pt_bd ka
  have k2 := pt_bd kb
  have k3 := pt_bd kc
  have k4 := pt_bd kd
  refine contract_of mix Try.func76 rfl rfl (by rw [Try.ntmps76]; exact Nat.le_of_ble_eq_true rfl) ?_; rw [Try.results76, Try.ntmps76]; simp only [argsE, Nat.reduceAdd]
  repeat' first
           | (with_reducible apply go_op)
           | (with_reducible apply go_next)
           | ((with_reducible (show evOp _ _ _ _ _ _)); first
             | (((with_reducible apply go_mv_int); rfl; rfl))
             | ((with_reducible apply go_as))
             | (((with_reducible apply go_ld_agg); rfl; rfl; rfl; rfl))
             | (((with_reducible apply go_bx_agg); rfl; rfl; (exact Nat.le_of_ble_eq_true rfl); rfl; rfl))
             | (((with_reducible apply go_alloc); rfl; rfl; rfl)))
           | ((with_reducible (show evOps _ _ _ _ _ _)); first
             | (with_reducible apply go_nil))
           | ((with_reducible (show evG _ _ _ _ _)); first
             | (with_reducible apply go_seq)
             | (with_reducible apply go_region)
             | (with_reducible apply go_block))
           | (with_reducible apply go_kseq)
  refine go_count 3 (fun i => ⟨[(15, .int .i64 i), (14, .agg (encT3 a b c)), (7, .op 4 0 0), (6, .op 3 0 0), (5, .op 2 0 0), (3, .op 1 0 0)], [(4, ⟨3, true, [pre3 (nrm a d) (nrm b d) (nrm c d) i]⟩), (3, ⟨3, true, [pre3 (a.y - d.y) (b.y - d.y) (c.y - d.y) i]⟩), (2, ⟨3, true, [pre3 (a.x - d.x) (b.x - d.x) (c.x - d.x) i]⟩), (1, ⟨2, true, [encPt d]⟩)], 32, 84⟩) (fun _ => True)
    (entails_eq (nx := 32) (k := 0) (ns := []) (ks := [15, 14, 7, 6, 5, 3]) [(160, 4), (128, 3), (96, 2), (32, 1)] rfl (by simp) (by kernel_rfl)) trivial ?_
  intro i hi hC
  have hc3 : i = 0 ∨ i = 1 ∨ i = 2 ∨ i = 3 := by omega
  rcases hc3 with rfl | rfl | rfl | rfl
  · repeat' first
           | (with_reducible apply go_op)
           | (with_reducible apply go_next)
           | ((with_reducible (show evOp _ _ _ _ _ _)); first
             | (((with_reducible apply go_mv_int); rfl; rfl))
             | ((with_reducible apply go_as))
             | (((with_reducible apply go_load_own); rfl; rfl; rfl; rfl))
             | (((with_reducible apply go_fieldAddr_own); rfl; rfl; rfl))
             | (((with_reducible apply go_index_arr); rfl; rfl; rfl; rfl; omega))
             | ((with_reducible (show evOp _ (.binOp _ _ _ _ _) _ _ _ _)) ; first | ((with_reducible apply go_cmp); rfl; rfl; rfl; rfl) | ((with_reducible apply go_add); rfl; rfl; rfl; omega) | ((with_reducible apply go_sub); rfl; rfl; rfl; omega) | ((with_reducible apply go_mul); rfl; rfl; rfl; omega))
             | ((with_reducible (show evOp _ (.store _ _ _) _ _ _ _)) ; first | ((with_reducible apply go_st_agg); rfl; rfl; rfl; rfl; rfl; rfl; rfl) | ((with_reducible apply go_store); rfl; rfl; rfl; rfl; rfl; rfl; (exact Nat.le_of_ble_eq_true rfl); (first | exact Nat.le_of_ble_eq_true rfl | omega); rfl; rfl))
             | (((with_reducible apply go_index_agg); rfl; rfl; rfl; omega; rfl))
             | (((with_reducible apply go_alloc); rfl; rfl; rfl)))
           | ((with_reducible (show evOps _ _ _ _ _ _)); first
             | (with_reducible apply go_nil)
             | ((with_reducible apply go_pre); rfl)
             | ((with_reducible apply go_pre_stop); rfl)
             | ((with_reducible apply go_suf); rfl)
             | ((with_reducible apply go_suf_stop); rfl)
             | (with_reducible apply go_take)
             | (with_reducible apply go_take0))
           | ((with_reducible (show evG _ _ _ _ _)); first
             | (with_reducible apply go_seq)
             | (with_reducible apply go_region)
             | ((with_reducible apply go_cond_t); rfl; rfl)
             | ((with_reducible apply (go_drawL 13 [[1, 7, 8, 9, 10, 11], [], []])); decide +kernel; rfl)
             | ((with_reducible apply go_order); kernel_rfl; rfl)
             | (with_reducible apply go_skipc)
             | (with_reducible apply go_block))
           | (with_reducible apply go_klined)
           | (with_reducible apply go_line_drop)
           | (with_reducible apply go_line_drop0)
           | (with_reducible apply go_line)
           | (with_reducible apply go_line_nil)
           | (with_reducible apply go_kln)
           | (with_reducible apply go_again_nil)
           | ((with_reducible apply go_again); rfl; (intro id'))
           | ((with_reducible apply go_kagain); rfl)
           | (with_reducible apply go_kseq)
           | (with_reducible apply go_ksuf)
           | (with_reducible apply go_kblock)
    refine ⟨by omega, trivial, entails_eq (nx := 32) (k := 0) (ns := []) (ks := [15, 14, 7, 6, 5, 3]) [(4, 4), (3, 3), (2, 2), (1, 1)] rfl (by simp) (by kernel_rfl)⟩
  · repeat' first
           | (with_reducible apply go_op)
           | (with_reducible apply go_next)
           | ((with_reducible (show evOp _ _ _ _ _ _)); first
             | (((with_reducible apply go_mv_int); rfl; rfl))
             | ((with_reducible apply go_as))
             | (((with_reducible apply go_load_own); rfl; rfl; rfl; rfl))
             | (((with_reducible apply go_fieldAddr_own); rfl; rfl; rfl))
             | (((with_reducible apply go_index_arr); rfl; rfl; rfl; rfl; omega))
             | ((with_reducible (show evOp _ (.binOp _ _ _ _ _) _ _ _ _)) ; first | ((with_reducible apply go_cmp); rfl; rfl; rfl; rfl) | ((with_reducible apply go_add); rfl; rfl; rfl; omega) | ((with_reducible apply go_sub); rfl; rfl; rfl; omega) | ((with_reducible apply go_mul); rfl; rfl; rfl; omega))
             | ((with_reducible (show evOp _ (.store _ _ _) _ _ _ _)) ; first | ((with_reducible apply go_st_agg); rfl; rfl; rfl; rfl; rfl; rfl; rfl) | ((with_reducible apply go_store); rfl; rfl; rfl; rfl; rfl; rfl; (exact Nat.le_of_ble_eq_true rfl); (first | exact Nat.le_of_ble_eq_true rfl | omega); rfl; rfl))
             | (((with_reducible apply go_index_agg); rfl; rfl; rfl; omega; rfl))
             | (((with_reducible apply go_alloc); rfl; rfl; rfl)))
           | ((with_reducible (show evOps _ _ _ _ _ _)); first
             | (with_reducible apply go_nil)
             | ((with_reducible apply go_pre); rfl)
             | ((with_reducible apply go_pre_stop); rfl)
             | ((with_reducible apply go_suf); rfl)
             | ((with_reducible apply go_suf_stop); rfl)
             | (with_reducible apply go_take)
             | (with_reducible apply go_take0))
           | ((with_reducible (show evG _ _ _ _ _)); first
             | (with_reducible apply go_seq)
             | (with_reducible apply go_region)
             | ((with_reducible apply go_cond_t); rfl; rfl)
             | ((with_reducible apply (go_drawL 13 [[1, 7, 8, 9, 10, 11], [], []])); decide +kernel; rfl)
             | ((with_reducible apply go_order); kernel_rfl; rfl)
             | (with_reducible apply go_skipc)
             | (with_reducible apply go_block))
           | (with_reducible apply go_klined)
           | (with_reducible apply go_line_drop)
           | (with_reducible apply go_line_drop0)
           | (with_reducible apply go_line)
           | (with_reducible apply go_line_nil)
           | (with_reducible apply go_kln)
           | (with_reducible apply go_again_nil)
           | ((with_reducible apply go_again); rfl; (intro id'))
           | ((with_reducible apply go_kagain); rfl)
           | (with_reducible apply go_kseq)
           | (with_reducible apply go_ksuf)
           | (with_reducible apply go_kblock)
    refine ⟨by omega, trivial, entails_eq (nx := 32) (k := 0) (ns := []) (ks := [15, 14, 7, 6, 5, 3]) [(4, 4), (3, 3), (2, 2), (1, 1)] rfl (by simp) (by kernel_rfl)⟩
  · repeat' first
           | (with_reducible apply go_op)
           | (with_reducible apply go_next)
           | ((with_reducible (show evOp _ _ _ _ _ _)); first
             | (((with_reducible apply go_mv_int); rfl; rfl))
             | ((with_reducible apply go_as))
             | (((with_reducible apply go_load_own); rfl; rfl; rfl; rfl))
             | (((with_reducible apply go_fieldAddr_own); rfl; rfl; rfl))
             | (((with_reducible apply go_index_arr); rfl; rfl; rfl; rfl; omega))
             | ((with_reducible (show evOp _ (.binOp _ _ _ _ _) _ _ _ _)) ; first | ((with_reducible apply go_cmp); rfl; rfl; rfl; rfl) | ((with_reducible apply go_add); rfl; rfl; rfl; omega) | ((with_reducible apply go_sub); rfl; rfl; rfl; omega) | ((with_reducible apply go_mul); rfl; rfl; rfl; omega))
             | ((with_reducible (show evOp _ (.store _ _ _) _ _ _ _)) ; first | ((with_reducible apply go_st_agg); rfl; rfl; rfl; rfl; rfl; rfl; rfl) | ((with_reducible apply go_store); rfl; rfl; rfl; rfl; rfl; rfl; (exact Nat.le_of_ble_eq_true rfl); (first | exact Nat.le_of_ble_eq_true rfl | omega); rfl; rfl))
             | (((with_reducible apply go_index_agg); rfl; rfl; rfl; omega; rfl))
             | (((with_reducible apply go_alloc); rfl; rfl; rfl)))
           | ((with_reducible (show evOps _ _ _ _ _ _)); first
             | (with_reducible apply go_nil)
             | ((with_reducible apply go_pre); rfl)
             | ((with_reducible apply go_pre_stop); rfl)
             | ((with_reducible apply go_suf); rfl)
             | ((with_reducible apply go_suf_stop); rfl)
             | (with_reducible apply go_take)
             | (with_reducible apply go_take0))
           | ((with_reducible (show evG _ _ _ _ _)); first
             | (with_reducible apply go_seq)
             | (with_reducible apply go_region)
             | ((with_reducible apply go_cond_t); rfl; rfl)
             | ((with_reducible apply (go_drawL 13 [[1, 7, 8, 9, 10, 11], [], []])); decide +kernel; rfl)
             | ((with_reducible apply go_order); kernel_rfl; rfl)
             | (with_reducible apply go_skipc)
             | (with_reducible apply go_block))
           | (with_reducible apply go_klined)
           | (with_reducible apply go_line_drop)
           | (with_reducible apply go_line_drop0)
           | (with_reducible apply go_line)
           | (with_reducible apply go_line_nil)
           | (with_reducible apply go_kln)
           | (with_reducible apply go_again_nil)
           | ((with_reducible apply go_again); rfl; (intro id'))
           | ((with_reducible apply go_kagain); rfl)
           | (with_reducible apply go_kseq)
           | (with_reducible apply go_ksuf)
           | (with_reducible apply go_kblock)
    refine ⟨by omega, trivial, entails_eq (nx := 32) (k := 0) (ns := []) (ks := [15, 14, 7, 6, 5, 3]) [(4, 4), (3, 3), (2, 2), (1, 1)] rfl (by simp) (by kernel_rfl)⟩
  · repeat' first
           | (with_reducible apply go_op)
           | (with_reducible apply go_next)
           | ((with_reducible (show evOp _ _ _ _ _ _)); first
             | (((with_reducible apply go_mv_int); rfl; rfl))
             | ((with_reducible apply go_as))
             | (((with_reducible apply go_cmp); rfl; rfl; rfl; rfl)))
           | ((with_reducible (show evOps _ _ _ _ _ _)); first
             | (with_reducible apply go_nil))
           | ((with_reducible (show evG _ _ _ _ _)); first
             | (with_reducible apply go_seq)
             | (with_reducible apply go_region)
             | ((with_reducible apply go_cond_f); rfl; rfl)
             | (with_reducible apply go_block)
             | (with_reducible apply go_exit))
           | (with_reducible apply go_kseq)
           | (with_reducible apply go_kblock_exit)
           | (with_reducible apply go_kseq_exit)
    refine go_count 3 (fun i => ⟨[(51, .int .i64 i), (10, .int .i64 (detP (nrm a d * crs b c d) (nrm b d * crs c a d) (nrm c d * crs a b d) i)), (7, .op 4 0 0), (6, .op 3 0 0), (5, .op 2 0 0)], [(4, ⟨3, true, [pre3 (nrm a d) (nrm b d) (nrm c d) 3]⟩), (3, ⟨3, true, [pre3 (a.y - d.y) (b.y - d.y) (c.y - d.y) 3]⟩), (2, ⟨3, true, [pre3 (a.x - d.x) (b.x - d.x) (c.x - d.x) 3]⟩)], 32, 84⟩) (fun _ => True)
      (entails_eq (nx := 32) (k := 0) (ns := []) (ks := [51, 10, 7, 6, 5]) [(4, 4), (3, 3), (2, 2)] rfl (by simp) (by kernel_rfl)) trivial ?_
    have d0 : detP (nrm a d * crs b c d) (nrm b d * crs c a d) (nrm c d * crs a b d) 0 = 0 := rfl
    have d1 : detP (nrm a d * crs b c d) (nrm b d * crs c a d) (nrm c d * crs a b d) 1 = nrm a d * ((b.x - d.x) * (c.y - d.y) - (c.x - d.x) * (b.y - d.y)) := Int.zero_add _
    have d2 : detP (nrm a d * crs b c d) (nrm b d * crs c a d) (nrm c d * crs a b d) 2 = nrm a d * ((b.x - d.x) * (c.y - d.y) - (c.x - d.x) * (b.y - d.y)) + nrm b d * ((c.x - d.x) * (a.y - d.y) - (a.x - d.x) * (c.y - d.y)) := by
      show 0 + _ + _ = _
      rw [Int.zero_add]; rfl
    simp only [crs] at t1 t2 t3
    intro i hi hC
    have hc3 : i = 0 ∨ i = 1 ∨ i = 2 ∨ i = 3 := by omega
    rcases hc3 with rfl | rfl | rfl | rfl
    · repeat' first
           | (with_reducible apply go_op)
           | (with_reducible apply go_next)
           | ((with_reducible (show evOp _ _ _ _ _ _)); first
             | (((with_reducible apply go_mv_int); rfl; rfl))
             | ((with_reducible apply go_as))
             | (((with_reducible apply go_load_own); rfl; rfl; rfl; rfl))
             | (((with_reducible apply go_index_arr); rfl; rfl; rfl; rfl; omega))
             | ((with_reducible (show evOp _ (.binOp _ _ _ _ _) _ _ _ _)) ; first | ((with_reducible apply go_cmp); rfl; rfl; rfl; rfl) | ((with_reducible apply go_add); rfl; rfl; rfl; omega) | ((with_reducible apply go_sub); rfl; rfl; rfl; omega) | ((with_reducible apply go_mul); rfl; rfl; rfl; omega) | ((with_reducible apply go_rem_pos); rfl; rfl; rfl; omega)))
           | ((with_reducible (show evOps _ _ _ _ _ _)); first
             | (with_reducible apply go_nil)
             | (with_reducible apply go_take)
             | (with_reducible apply go_take0)
             | (with_reducible apply go_drop)
             | (with_reducible apply go_drop0))
           | ((with_reducible (show evG _ _ _ _ _)); first
             | (with_reducible apply go_seq)
             | (with_reducible apply go_region)
             | ((with_reducible apply go_cond_t); rfl; rfl)
             | ((with_reducible apply (go_drawM 21)); decide +kernel; rfl)
             | (with_reducible apply go_skipc)
             | (with_reducible apply go_block))
           | (with_reducible apply go_kseq)
           | (with_reducible apply go_kblock)
           | (with_reducible apply go_kdrop)
      refine ⟨by omega, trivial, entails_eq (nx := 32) (k := 0) (ns := []) (ks := [51, 10, 7, 6, 5]) [(4, 4), (3, 3), (2, 2)] rfl (by simp) (by kernel_rfl)⟩
    · repeat' first
           | (with_reducible apply go_op)
           | (with_reducible apply go_next)
           | ((with_reducible (show evOp _ _ _ _ _ _)); first
             | (((with_reducible apply go_mv_int); rfl; rfl))
             | ((with_reducible apply go_as))
             | (((with_reducible apply go_load_own); rfl; rfl; rfl; rfl))
             | (((with_reducible apply go_index_arr); rfl; rfl; rfl; rfl; omega))
             | ((with_reducible (show evOp _ (.binOp _ _ _ _ _) _ _ _ _)) ; first | ((with_reducible apply go_cmp); rfl; rfl; rfl; rfl) | ((with_reducible apply go_add); rfl; rfl; rfl; omega) | ((with_reducible apply go_sub); rfl; rfl; rfl; omega) | ((with_reducible apply go_mul); rfl; rfl; rfl; omega) | ((with_reducible apply go_rem_pos); rfl; rfl; rfl; omega)))
           | ((with_reducible (show evOps _ _ _ _ _ _)); first
             | (with_reducible apply go_nil)
             | (with_reducible apply go_take)
             | (with_reducible apply go_take0)
             | (with_reducible apply go_drop)
             | (with_reducible apply go_drop0))
           | ((with_reducible (show evG _ _ _ _ _)); first
             | (with_reducible apply go_seq)
             | (with_reducible apply go_region)
             | ((with_reducible apply go_cond_t); rfl; rfl)
             | ((with_reducible apply (go_drawM 21)); decide +kernel; rfl)
             | (with_reducible apply go_skipc)
             | (with_reducible apply go_block))
           | (with_reducible apply go_kseq)
           | (with_reducible apply go_kblock)
           | (with_reducible apply go_kdrop)
      refine ⟨by omega, trivial, entails_eq (nx := 32) (k := 0) (ns := []) (ks := [51, 10, 7, 6, 5]) [(4, 4), (3, 3), (2, 2)] rfl (by simp) (by kernel_rfl)⟩
    · repeat' first
           | (with_reducible apply go_op)
           | (with_reducible apply go_next)
           | ((with_reducible (show evOp _ _ _ _ _ _)); first
             | (((with_reducible apply go_mv_int); rfl; rfl))
             | ((with_reducible apply go_as))
             | (((with_reducible apply go_load_own); rfl; rfl; rfl; rfl))
             | (((with_reducible apply go_index_arr); rfl; rfl; rfl; rfl; omega))
             | ((with_reducible (show evOp _ (.binOp _ _ _ _ _) _ _ _ _)) ; first | ((with_reducible apply go_cmp); rfl; rfl; rfl; rfl) | ((with_reducible apply go_add); rfl; rfl; rfl; omega) | ((with_reducible apply go_sub); rfl; rfl; rfl; omega) | ((with_reducible apply go_mul); rfl; rfl; rfl; omega) | ((with_reducible apply go_rem_pos); rfl; rfl; rfl; omega)))
           | ((with_reducible (show evOps _ _ _ _ _ _)); first
             | (with_reducible apply go_nil)
             | (with_reducible apply go_take)
             | (with_reducible apply go_take0)
             | (with_reducible apply go_drop)
             | (with_reducible apply go_drop0))
           | ((with_reducible (show evG _ _ _ _ _)); first
             | (with_reducible apply go_seq)
             | (with_reducible apply go_region)
             | ((with_reducible apply go_cond_t); rfl; rfl)
             | ((with_reducible apply (go_drawM 21)); decide +kernel; rfl)
             | (with_reducible apply go_skipc)
             | (with_reducible apply go_block))
           | (with_reducible apply go_kseq)
           | (with_reducible apply go_kblock)
           | (with_reducible apply go_kdrop)
      refine ⟨by omega, trivial, entails_eq (nx := 32) (k := 0) (ns := []) (ks := [51, 10, 7, 6, 5]) [(4, 4), (3, 3), (2, 2)] rfl (by simp) (by kernel_rfl)⟩
    · repeat' first
           | (with_reducible apply go_op)
           | (with_reducible apply go_next)
           | ((with_reducible (show evOp _ _ _ _ _ _)); first
             | (((with_reducible apply go_mv_int); rfl; rfl))
             | ((with_reducible apply go_as))
             | (((with_reducible apply go_cmp); rfl; rfl; rfl; rfl))
             | (((with_reducible apply go_fn_int); rfl; (exact c_compare0 _); rfl)))
           | ((with_reducible (show evOps _ _ _ _ _ _)); first
             | (with_reducible apply go_nil))
           | ((with_reducible (show evG _ _ _ _ _)); first
             | (with_reducible apply go_seq)
             | (with_reducible apply go_region)
             | ((with_reducible apply go_cond_f); rfl; rfl)
             | (with_reducible apply go_ret)
             | (with_reducible apply go_exit))
           | (with_reducible apply go_kseq)
           | (with_reducible apply go_kblock_exit)
           | (with_reducible apply go_kseq_exit)
           | ((with_reducible apply end_int); rfl)
      all_goals rfl
end Go.Pv.Geo

open Go Go.Proofs Go.Pv
set_option maxHeartbeats 4000000
set_option maxRecDepth 100000
set_option linter.unusedSimpArgs false
set_option linter.unusedVariables false
namespace Go.Pv.Geo
def absE (n : Int) : Int := if n < 0 then 0 - n else n
theorem c_abs (n : Int) (h : -9223372036854775807 ≤ n) (h' : n ≤ 9223372036854775807) : Contract Try.prog 54 [.int .i64 n] (.ret (.int .i64 (absE n))) := by
  refine contract_of mix Try.func54 rfl rfl (by rw [Try.ntmps54]; exact Nat.le_of_ble_eq_true rfl) ?_; rw [Try.results54, Try.ntmps54]; simp only [argsE, Nat.reduceAdd]
  repeat' first
           | (with_reducible apply go_op)
           | (with_reducible apply go_next)
           | ((with_reducible (show evOp _ _ _ _ _ _)); first
             | (((with_reducible apply go_mv_int); rfl; rfl))
             | ((with_reducible apply go_as))
             | (((with_reducible apply go_cmp); rfl; rfl; rfl; rfl))
             | (((with_reducible apply go_neg); rfl; rfl; omega)))
           | ((with_reducible (show evOps _ _ _ _ _ _)); first
             | (with_reducible apply go_nil))
           | ((with_reducible (show evG _ _ _ _ _)); first
             | (with_reducible apply go_seq)
             | (with_reducible apply go_region)
             | (((with_reducible apply go_cond); rfl) <;> (intro h; simp only [h]; try simp only [decide_eq_true_eq, decide_eq_false_iff_not, Bool.not_eq_true', Bool.not_eq_false', Bool.not_true, Bool.not_false] at h; try exact absurd trivial h))
             | (with_reducible apply go_ret)
             | (with_reducible apply go_skipc))
           | (with_reducible apply go_kseq)
           | (with_reducible apply go_kseq_ret)
           | ((with_reducible apply end_int); rfl)
  all_goals (unfold absE; first | rw [if_pos (by assumption)] | rw [if_neg (by omega)])
def farP (p q : Pt) : Bool := decide (20000 < p.x - q.x ∨ 20000 < p.y - q.y)
/-- Are some of the points too far from each other? -/
def farL (l : List Pt) : Bool := l.any fun p => l.any fun q => farP p q
theorem farL_yes {l : List Pt} {i k : Nat} (hi : i < l.length) (hk : k < l.length) (h : farP l[i] l[k] = true) : farL l = true :=
  List.any_eq_true.2 ⟨_, List.getElem_mem hi, List.any_eq_true.2 ⟨_, List.getElem_mem hk, h⟩⟩
theorem farL_no {l : List Pt} (h : ∀ i (hi : i < l.length), ∀ k (hk : k < l.length), farP l[i] l[k] = false) : farL l = false := by
  simp only [farL, List.any_eq_false]
  intro p hp
  obtain ⟨i, hi, rfl⟩ := List.mem_iff_getElem.1 hp
  simp only [List.any_eq_true, not_exists, not_and]
  intro q hq
  obtain ⟨k, hk, rfl⟩ := List.mem_iff_getElem.1 hq
  rw [h i hi k hk]; simp
theorem farP_self (p : Pt) : farP p p = false := by simp [farP]

theorem c_apart (l : List Pt) (hl : l.length < 1000000000000) (hok : ∀ p ∈ l, ptOK p = true) : Contract Try.prog 74 [.sl (l.map encPt)] (.ret (.bool (farL l))) := by
  refine contract_of mix Try.func74 rfl rfl (by rw [Try.ntmps74]; exact Nat.le_of_ble_eq_true rfl) ?_; rw [Try.results74, Try.ntmps74]; simp only [argsE, Nat.reduceAdd]
  repeat' first
           | (with_reducible apply go_op)
           | (with_reducible apply go_next)
           | ((with_reducible (show evOp _ _ _ _ _ _)); first
             | ((with_reducible (show evOp _ (.move _) _ _ _ _)) ; first | ((with_reducible apply go_mv_int); rfl; rfl) | ((with_reducible apply go_mv_bool); rfl; rfl) | ((with_reducible apply go_mv_sl); rfl; rfl))
             | ((with_reducible apply go_as))
             | (((with_reducible apply go_len); rfl; rfl)))
           | ((with_reducible (show evOps _ _ _ _ _ _)); first
             | (with_reducible apply go_nil))
           | ((with_reducible (show evG _ _ _ _ _)); first
             | (with_reducible apply go_seq)
             | (with_reducible apply go_region)
             | (with_reducible apply go_block))
           | (with_reducible apply go_kseq)
  refine go_count (l.length) (fun i => ⟨[(9, .int .i64 i), (8, .int .i64 l.length), (7, .sl (l.map encPt)), (0, .sl (l.map encPt))], [], 0, 35⟩) (fun i => ∀ j (hj : j < i) (hj' : j < l.length), ∀ k (hk : k < l.length), farP l[j] l[k] = false) (entails_eq (k := 0) (ns := []) (ks := [9, 8, 7, 0]) [] rfl (by simp) rfl) (by omega) ?_
  intro i hi hC
  repeat' first
           | (with_reducible apply go_op)
           | (with_reducible apply go_next)
           | ((with_reducible (show evOp _ _ _ _ _ _)); first
             | ((with_reducible (show evOp _ (.move _) _ _ _ _)) ; first | ((with_reducible apply go_mv_int); rfl; rfl) | ((with_reducible apply go_mv_bool); rfl; rfl) | ((with_reducible apply go_mv_sl); rfl; rfl))
             | ((with_reducible apply go_as))
             | (((with_reducible apply go_ld_ptr); rfl; rfl; rfl))
             | (((with_reducible apply go_index_nat); rfl; rfl; (with_reducible rfl); (intro; rfl); rfl; omega; (intro hlt)))
             | (((with_reducible apply go_cmp); rfl; rfl; rfl; rfl))
             | (((with_reducible apply go_len); rfl; rfl))
             | (((with_reducible apply go_st_agg); rfl; rfl; rfl; rfl; rfl; rfl; rfl))
             | (((with_reducible apply go_alloc); rfl; rfl; rfl)))
           | ((with_reducible (show evOps _ _ _ _ _ _)); first
             | (with_reducible apply go_nil))
           | ((with_reducible (show evG _ _ _ _ _)); first
             | (with_reducible apply go_seq)
             | (with_reducible apply go_region)
             | (((with_reducible apply go_cond); rfl) <;> (intro h; simp only [h]; try simp only [decide_eq_true_eq, decide_eq_false_iff_not, Bool.not_eq_true', Bool.not_eq_false', Bool.not_true, Bool.not_false] at h; try exact absurd trivial h))
             | (with_reducible apply go_ret)
             | (with_reducible apply go_skipc)
             | (with_reducible apply go_block)
             | (with_reducible apply go_exit))
           | (with_reducible apply go_kseq)
           | (with_reducible apply go_kblock_exit)
           | (with_reducible apply go_kseq_exit)
           | ((with_reducible apply end_bool); rfl)
  · have h2 : i < l.length := by omega
    refine go_count l.length (fun k => ⟨[(15, .int .i64 k), (14, .int .i64 l.length), (13, .sl (l.map encPt)), (4, .op 0 0 0), (9, .int .i64 i), (8, .int .i64 l.length), (7, .sl (l.map encPt)), (0, .sl (l.map encPt))], [(0, ⟨2, true, [encPt l[i]]⟩)], 32, 35⟩) (fun k => ∀ j (hj : j < k) (hj' : j < l.length), farP l[i] l[j] = false)
      (entails_eq (nx := 32) (k := 0) (ns := []) (ks := [15, 14, 13, 4, 9, 8, 7, 0]) [(96, 0)] rfl (by simp) (by kernel_rfl)) (by omega) ?_
    intro k hk hC2
    have b1 := pt_bd (hok _ (List.getElem_mem h2))
    by_cases h3 : k < l.length
    · have b2 := pt_bd (hok _ (List.getElem_mem h3))
      repeat' first
           | (with_reducible apply go_op)
           | (with_reducible apply go_next)
           | ((with_reducible (show evOp _ _ _ _ _ _)); first
             | ((with_reducible (show evOp _ (.move _) _ _ _ _)) ; first | ((with_reducible apply go_mv_int); rfl; rfl) | ((with_reducible apply go_mv_bool); rfl; rfl))
             | ((with_reducible apply go_as))
             | ((with_reducible (show evOp _ (.load _ _) _ _ _ _)) ; first | ((with_reducible apply go_ld_ptr); rfl; rfl; rfl) | ((with_reducible apply go_load_own); rfl; rfl; rfl; rfl))
             | (((with_reducible apply go_fieldAddr_own); rfl; rfl; rfl))
             | (((with_reducible apply go_index_nat); rfl; rfl; (with_reducible rfl); (intro; rfl); rfl; omega; (intro hlt)))
             | ((with_reducible (show evOp _ (.binOp _ _ _ _ _) _ _ _ _)) ; first | ((with_reducible apply go_cmp); rfl; rfl; rfl; rfl) | ((with_reducible apply go_add); rfl; rfl; rfl; omega) | ((with_reducible apply go_sub); rfl; rfl; rfl; omega))
             | (((with_reducible apply go_st_agg); rfl; rfl; rfl; rfl; rfl; rfl; rfl))
             | (((with_reducible apply go_pick); rfl; rfl; rfl))
             | (((with_reducible apply go_alloc); rfl; rfl; rfl)))
           | ((with_reducible (show evOps _ _ _ _ _ _)); first
             | (with_reducible apply go_nil)
             | ((with_reducible apply go_run); rfl; rfl)
             | ((with_reducible apply go_pass); rfl; rfl; rfl)
             | (((with_reducible apply go_guard); rfl) <;> (intro h; simp only [h, Bool.not_true, Bool.not_false]; (try with_reducible (refine ⟨rfl, ?_⟩)); try simp only [decide_eq_true_eq, decide_eq_false_iff_not, Bool.not_eq_true', Bool.not_eq_false', Bool.not_true, Bool.not_false] at h; try exact absurd trivial h)))
           | ((with_reducible (show evG _ _ _ _ _)); first
             | (with_reducible apply go_seq)
             | (with_reducible apply go_region)
             | ((with_reducible apply go_cond_t); rfl; rfl)
             | (((with_reducible apply go_cond); rfl) <;> (intro h; simp only [h]; try simp only [decide_eq_true_eq, decide_eq_false_iff_not, Bool.not_eq_true', Bool.not_eq_false', Bool.not_true, Bool.not_false] at h; try exact absurd trivial h))
             | (with_reducible apply go_ret)
             | (with_reducible apply go_skipc)
             | (with_reducible apply go_block)
             | (with_reducible apply go_exit))
           | (with_reducible apply go_kseq)
           | (with_reducible apply go_kseq_ret)
           | (with_reducible apply go_kblock)
           | (with_reducible apply go_kblock_ret)
           | (with_reducible apply go_kblock_exit)
           | (with_reducible apply go_kseq_exit)
           | ((with_reducible apply end_bool); rfl)
      · exact (farL_yes h2 h3 (by simp only [farP, decide_eq_true_eq]; omega)).symm
      · refine ⟨h3, fun j hj hj' => ?_, entails_eq (nx := 32) (k := 0) (ns := []) (ks := [15, 14, 13, 4, 9, 8, 7, 0]) [(0, 0)] rfl (by simp) (by kernel_rfl)⟩
        rcases Nat.lt_succ_iff_lt_or_eq.1 hj with h' | rfl
        · exact hC2 j h' hj'
        · simp only [farP, decide_eq_false_iff_not]; omega
      · exact (farL_yes h2 h3 (by simp only [farP, decide_eq_true_eq]; omega)).symm
      · omega
    · repeat' first
           | (with_reducible apply go_op)
           | (with_reducible apply go_next)
           | ((with_reducible (show evOp _ _ _ _ _ _)); first
             | ((with_reducible (show evOp _ (.move _) _ _ _ _)) ; first | ((with_reducible apply go_mv_int); rfl; rfl) | ((with_reducible apply go_mv_bool); rfl; rfl))
             | ((with_reducible apply go_as))
             | ((with_reducible (show evOp _ (.load _ _) _ _ _ _)) ; first | ((with_reducible apply go_ld_ptr); rfl; rfl; rfl) | ((with_reducible apply go_load_own); rfl; rfl; rfl; rfl))
             | (((with_reducible apply go_fieldAddr_own); rfl; rfl; rfl))
             | (((with_reducible apply go_index_nat); rfl; rfl; (with_reducible rfl); (intro; rfl); rfl; omega; (intro hlt)))
             | ((with_reducible (show evOp _ (.binOp _ _ _ _ _) _ _ _ _)) ; first | ((with_reducible apply go_cmp); rfl; rfl; rfl; rfl) | ((with_reducible apply go_add); rfl; rfl; rfl; omega) | ((with_reducible apply go_sub); rfl; rfl; rfl; omega))
             | (((with_reducible apply go_st_agg); rfl; rfl; rfl; rfl; rfl; rfl; rfl))
             | (((with_reducible apply go_pick); rfl; rfl; rfl))
             | (((with_reducible apply go_alloc); rfl; rfl; rfl)))
           | ((with_reducible (show evOps _ _ _ _ _ _)); first
             | (with_reducible apply go_nil)
             | ((with_reducible apply go_run); rfl; rfl)
             | ((with_reducible apply go_pass); rfl; rfl; rfl)
             | (((with_reducible apply go_guard); rfl) <;> (intro h; simp only [h, Bool.not_true, Bool.not_false]; (try with_reducible (refine ⟨rfl, ?_⟩)); try simp only [decide_eq_true_eq, decide_eq_false_iff_not, Bool.not_eq_true', Bool.not_eq_false', Bool.not_true, Bool.not_false] at h; try exact absurd trivial h)))
           | ((with_reducible (show evG _ _ _ _ _)); first
             | (with_reducible apply go_seq)
             | (with_reducible apply go_region)
             | ((with_reducible apply go_cond_t); rfl; rfl)
             | (((with_reducible apply go_cond); rfl) <;> (intro h; simp only [h]; try simp only [decide_eq_true_eq, decide_eq_false_iff_not, Bool.not_eq_true', Bool.not_eq_false', Bool.not_true, Bool.not_false] at h; try exact absurd trivial h))
             | (with_reducible apply go_ret)
             | (with_reducible apply go_skipc)
             | (with_reducible apply go_block)
             | (with_reducible apply go_exit))
           | (with_reducible apply go_kseq)
           | (with_reducible apply go_kseq_ret)
           | (with_reducible apply go_kblock)
           | (with_reducible apply go_kblock_ret)
           | (with_reducible apply go_kblock_exit)
           | (with_reducible apply go_kseq_exit)
           | ((with_reducible apply end_bool); rfl)
      · exact absurd ‹k < l.length› h3
      · exact absurd ‹k < l.length› h3
      · exact absurd ‹k < l.length› h3
      · refine ⟨h2, fun j hj hj' => ?_, entails_eq (k := 0) (ns := []) (ks := [9, 8, 7, 0]) [] rfl (by simp) rfl⟩
        rcases Nat.lt_succ_iff_lt_or_eq.1 hj with h' | rfl
        · exact hC j h' hj'
        · exact fun k' hk' => hC2 k' (by omega) hk'
  · exact (farL_no fun j hj k hk => hC j (by omega) hj k hk).symm
/-- .. the reference asks each pair once. -/
theorem c_close (l : List Pt) (hl : l.length < 1000000000000) (hok : ∀ p ∈ l, ptOK p = true) : Contract Try.prog 22 [.sl (l.map encPt)] (.ret (.bool (!farL l))) := by
  refine contract_of mix Try.func22 rfl rfl (by rw [Try.ntmps22]; exact Nat.le_of_ble_eq_true rfl) ?_; rw [Try.results22, Try.ntmps22]; simp only [argsE, Nat.reduceAdd]
  repeat' first
           | (with_reducible apply go_op)
           | (with_reducible apply go_next)
           | ((with_reducible (show evOp _ _ _ _ _ _)); first
             | ((with_reducible (show evOp _ (.move _) _ _ _ _)) ; first | ((with_reducible apply go_mv_int); rfl; rfl) | ((with_reducible apply go_mv_bool); rfl; rfl))
             | ((with_reducible apply go_as)))
           | ((with_reducible (show evOps _ _ _ _ _ _)); first
             | (with_reducible apply go_nil))
           | ((with_reducible (show evG _ _ _ _ _)); first
             | (with_reducible apply go_seq)
             | (with_reducible apply go_region)
             | (with_reducible apply go_block))
           | (with_reducible apply go_kseq)
  refine go_count (l.length) (fun i => ⟨[(3, .int .i64 i), (0, .sl (l.map encPt))], [], 0, 44⟩) (fun i => ∀ j (hj : j < i) (hj' : j < l.length), ∀ k (hk : k < j), farP l[j] l[k] = false ∧ farP l[k] l[j] = false) (entails_eq (k := 0) (ns := []) (ks := [3, 0]) [] rfl (by simp) rfl) (by omega) ?_
  intro i hi hC
  repeat' first
           | (with_reducible apply go_op)
           | (with_reducible apply go_next)
           | ((with_reducible (show evOp _ _ _ _ _ _)); first
             | ((with_reducible (show evOp _ (.move _) _ _ _ _)) ; first | ((with_reducible apply go_mv_int); rfl; rfl) | ((with_reducible apply go_mv_bool); rfl; rfl) | ((with_reducible apply go_mv_sl); rfl; rfl))
             | ((with_reducible apply go_as))
             | (((with_reducible apply go_cmp); rfl; rfl; rfl; rfl))
             | (((with_reducible apply go_len); rfl; rfl)))
           | ((with_reducible (show evOps _ _ _ _ _ _)); first
             | (with_reducible apply go_nil))
           | ((with_reducible (show evG _ _ _ _ _)); first
             | (with_reducible apply go_seq)
             | (with_reducible apply go_region)
             | (((with_reducible apply go_cond); rfl) <;> (intro h; simp only [h]; try simp only [decide_eq_true_eq, decide_eq_false_iff_not, Bool.not_eq_true', Bool.not_eq_false', Bool.not_true, Bool.not_false] at h; try exact absurd trivial h))
             | (with_reducible apply go_ret)
             | (with_reducible apply go_skipc)
             | (with_reducible apply go_block)
             | (with_reducible apply go_exit))
           | (with_reducible apply go_kseq)
           | (with_reducible apply go_kblock_exit)
           | (with_reducible apply go_kseq_exit)
           | ((with_reducible apply end_bool); rfl)
  · have h2 : i < l.length := by omega
    refine go_count i (fun k => ⟨[(4, .int .i64 k), (3, .int .i64 i), (0, .sl (l.map encPt))], [], 0, 44⟩) (fun k => ∀ j (hj : j < k) (hj' : j < i), farP l[i] l[j] = false ∧ farP l[j] l[i] = false)
      (entails_eq (nx := 0) (k := 0) (ns := []) (ks := [4, 3, 0]) [] rfl (by simp) (by kernel_rfl)) (by omega) ?_
    intro k hk hC2
    have b1 := pt_bd (hok _ (List.getElem_mem h2))
    by_cases h3 : k < i
    · have h4 : k < l.length := by omega
      have b2 := pt_bd (hok _ (List.getElem_mem h4))
      have a1 := c_abs (l[i].x - l[k].x) (by omega) (by omega)
      have a2 := c_abs (l[i].y - l[k].y) (by omega) (by omega)
      repeat' first
           | (with_reducible apply go_op)
           | (with_reducible apply go_next)
           | ((with_reducible (show evOp _ _ _ _ _ _)); first
             | ((with_reducible (show evOp _ (.move _) _ _ _ _)) ; first | ((with_reducible apply go_mv_int); rfl; rfl) | ((with_reducible apply go_mv_bool); rfl; rfl) | ((with_reducible apply go_mv_sl); rfl; rfl))
             | ((with_reducible apply go_as))
             | (((with_reducible apply go_load); rfl; rfl; rfl))
             | (((with_reducible apply go_fieldAddr); rfl; rfl))
             | (((with_reducible apply go_index_nat); rfl; rfl; (with_reducible rfl); (intro; rfl); rfl; omega; (intro hlt)))
             | ((with_reducible (show evOp _ (.binOp _ _ _ _ _) _ _ _ _)) ; first | ((with_reducible apply go_cmp); rfl; rfl; rfl; rfl) | ((with_reducible apply go_add); rfl; rfl; rfl; omega) | ((with_reducible apply go_sub); rfl; rfl; rfl; omega))
             | ((with_reducible (show evOp _ (.call _) _ _ _ _)) ; first | ((with_reducible apply go_fn_int); rfl; (exact a1); rfl) | ((with_reducible apply go_fn_int); rfl; (exact a2); rfl))
             | (((with_reducible apply go_pick); rfl; rfl; rfl)))
           | ((with_reducible (show evOps _ _ _ _ _ _)); first
             | (with_reducible apply go_nil)
             | ((with_reducible apply go_run); rfl; rfl)
             | ((with_reducible apply go_pass); rfl; rfl; rfl)
             | (((with_reducible apply go_guard); rfl) <;> (intro h; simp only [h, Bool.not_true, Bool.not_false]; (try with_reducible (refine ⟨rfl, ?_⟩)); try simp only [decide_eq_true_eq, decide_eq_false_iff_not, Bool.not_eq_true', Bool.not_eq_false', Bool.not_true, Bool.not_false] at h; try exact absurd trivial h))
             | ((with_reducible apply go_pre); rfl)
             | (with_reducible apply go_pre_nil)
             | ((with_reducible apply go_suf); rfl)
             | (with_reducible apply go_suf_nil))
           | ((with_reducible (show evG _ _ _ _ _)); first
             | (with_reducible apply go_seq)
             | (with_reducible apply go_region)
             | ((with_reducible apply go_cond_t); rfl; rfl)
             | (((with_reducible apply go_cond); rfl) <;> (intro h; simp only [h]; try simp only [decide_eq_true_eq, decide_eq_false_iff_not, Bool.not_eq_true', Bool.not_eq_false', Bool.not_true, Bool.not_false] at h; try exact absurd trivial h))
             | ((with_reducible apply go_order); kernel_rfl; rfl)
             | (with_reducible apply go_ret)
             | (with_reducible apply go_skipc)
             | (with_reducible apply go_block)
             | (with_reducible apply go_exit))
           | (with_reducible apply go_kseq)
           | (with_reducible apply go_ksuf)
           | (with_reducible apply go_kseq_ret)
           | (with_reducible apply go_kblock)
           | (with_reducible apply go_kblock_ret)
           | (with_reducible apply go_kblock_exit)
           | (with_reducible apply go_kseq_exit)
           | ((with_reducible apply end_bool); rfl)
      all_goals first
        | (refine ⟨h3, fun j hj hj' => ?_, entails_eq (nx := 0) (k := 0) (ns := []) (ks := [4, 3, 0]) [] rfl (by simp) (by kernel_rfl)⟩
           rcases Nat.lt_succ_iff_lt_or_eq.1 hj with h' | rfl
           · exact hC2 j h' hj'
           · unfold absE at *
             simp only [farP, decide_eq_false_iff_not]; constructor <;> (repeat' split at *) <;> omega)
        | (have hf : farL l = true := by
             unfold absE at *
             by_cases hp : farP l[i] l[k] = true
             · exact farL_yes h2 h4 hp
             · refine farL_yes h4 h2 ?_
               simp only [farP, decide_eq_true_eq] at hp ⊢; (repeat' split at *) <;> omega
           rw [hf]; rfl)
        | omega
    · repeat' first
           | (with_reducible apply go_op)
           | (with_reducible apply go_next)
           | ((with_reducible (show evOp _ _ _ _ _ _)); first
             | ((with_reducible (show evOp _ (.move _) _ _ _ _)) ; first | ((with_reducible apply go_mv_int); rfl; rfl) | ((with_reducible apply go_mv_sl); rfl; rfl))
             | ((with_reducible apply go_as))
             | (((with_reducible apply go_load); rfl; rfl; rfl))
             | (((with_reducible apply go_fieldAddr); rfl; rfl))
             | (((with_reducible apply go_index_nat); rfl; rfl; (with_reducible rfl); (intro; rfl); rfl; omega; (intro hlt)))
             | ((with_reducible (show evOp _ (.binOp _ _ _ _ _) _ _ _ _)) ; first | ((with_reducible apply go_cmp); rfl; rfl; rfl; rfl) | ((with_reducible apply go_add); rfl; rfl; rfl; omega) | ((with_reducible apply go_sub); rfl; rfl; rfl; omega)))
           | ((with_reducible (show evOps _ _ _ _ _ _)); first
             | (with_reducible apply go_nil)
             | ((with_reducible apply go_pre); rfl))
           | ((with_reducible (show evG _ _ _ _ _)); first
             | (with_reducible apply go_seq)
             | (with_reducible apply go_region)
             | (((with_reducible apply go_cond); rfl) <;> (intro h; simp only [h]; try simp only [decide_eq_true_eq, decide_eq_false_iff_not, Bool.not_eq_true', Bool.not_eq_false', Bool.not_true, Bool.not_false] at h; try exact absurd trivial h))
             | ((with_reducible apply go_order); kernel_rfl; rfl)
             | (with_reducible apply go_skipc)
             | (with_reducible apply go_block)
             | (with_reducible apply go_exit))
           | (with_reducible apply go_kseq)
           | (with_reducible apply go_kblock)
           | (with_reducible apply go_kblock_exit)
           | (with_reducible apply go_kseq_exit)
      all_goals first
        | (exfalso; omega)
        | (refine ⟨h2, fun j hj hj' => ?_, entails_eq (k := 0) (ns := []) (ks := [3, 0]) [] rfl (by simp) rfl⟩
           rcases Nat.lt_succ_iff_lt_or_eq.1 hj with h' | rfl
           · exact hC j h' hj'
           · exact fun k' hk' => hC2 k' (by omega) hk')
  · rw [farL_no]; rfl
    intro j hj k hk
    rcases Nat.lt_trichotomy j k with h | h | h
    · exact (hC k (by omega) hk j h).2
    · subst h; exact farP_self _
    · exact (hC j (by omega) hj k h).1

theorem c_apart_4 (a b c d : Pt) (ha : ptOK a = true) (hb : ptOK b = true) (hc : ptOK c = true) (hd : ptOK d = true) : Contract Try.prog 74 [.sl [encPt a, encPt b, encPt c, encPt d]] (.ret (.bool (farL [a, b, c, d]))) :=
  c_apart [a, b, c, d] (by simp) (by simp [*])
theorem c_close_4 (a b c d : Pt) (ha : ptOK a = true) (hb : ptOK b = true) (hc : ptOK c = true) (hd : ptOK d = true) : Contract Try.prog 22 [.sl [encPt a, encPt b, encPt c, encPt d]] (.ret (.bool (!farL [a, b, c, d]))) :=
  c_close [a, b, c, d] (by simp) (by simp [*])
theorem near_of {a b c d : Pt} (h : farL [a, b, c, d] = false) : nearE a d ∧ nearE b d ∧ nearE c d := by
  simp [farL, farP] at h
  simp only [nearE]
  omega
/-- What InCircle answers: the place and the error. -/
def inCircE (a b c d : Pt) : Int × Int :=
  if (ptOK a && ptOK b && ptOK c && ptOK d) = false then (0, 2) else if farL [a, b, c, d] = true then (0, 8) else if signE (crossE a b c) = 0 then (0, 10) else (signE (crossE a b c) * signE (detE a b c d), 0)
theorem c_InCircle (a b c d : Pt) : Contract Try.prog 20 [.agg (encPt a), .agg (encPt b), .agg (encPt c), .agg (encPt d)] (.ret (.tup [.int .i64 (inCircE a b c d).1, .int .i64 (inCircE a b c d).2])) := by
  cases hok : ptOK a && ptOK b && ptOK c && ptOK d
  · have h1 := c_outside_4 a b c d
    rw [hok] at h1
    have he : inCircE a b c d = (0, 2) := by simp [inCircE, hok]
    rw [he]
    refine contract_of mix Try.func20 rfl rfl (by rw [Try.ntmps20]; exact Nat.le_of_ble_eq_true rfl) ?_; rw [Try.results20, Try.ntmps20]; simp only [argsE, Nat.reduceAdd]
    repeat' first
           | (with_reducible apply go_op)
           | (with_reducible apply go_next)
           | ((with_reducible (show evOp _ _ _ _ _ _)); first
             | ((with_reducible (show evOp _ (.move _) _ _ _ _)) ; first | ((with_reducible apply go_mv_int); rfl; rfl) | ((with_reducible apply go_mv_bool); rfl; rfl))
             | ((with_reducible apply go_as))
             | (((with_reducible apply go_ld_agg); rfl; rfl; rfl; rfl))
             | (((with_reducible apply go_fn_bool); (exact purL_os rfl (by simp) rfl); (exact h1); rfl))
             | (((with_reducible apply go_bx_agg); rfl; rfl; (exact Nat.le_of_ble_eq_true rfl); rfl; rfl))
             | (((with_reducible apply go_bs4_agg); rfl; rfl; rfl; rfl; rfl; rfl; rfl; rfl; rfl; rfl; rfl; rfl)))
           | ((with_reducible (show evOps _ _ _ _ _ _)); first
             | (with_reducible apply go_nil))
           | ((with_reducible (show evG _ _ _ _ _)); first
             | (with_reducible apply go_seq)
             | (with_reducible apply go_region)
             | ((with_reducible apply go_cond_t); rfl; rfl)
             | (with_reducible apply go_ret)
             | (with_reducible apply go_block))
           | (with_reducible apply go_kseq)
           | (with_reducible apply go_kseq_ret)
           | (with_reducible apply go_kblock_ret)
           | ((with_reducible apply end_t2); rfl; rfl; rfl; rfl)
    all_goals rfl
  · have h1 := c_outside_4 a b c d
    rw [hok] at h1
    have hk : ((ptOK a = true ∧ ptOK b = true) ∧ ptOK c = true) ∧ ptOK d = true := by simpa using hok
    obtain ⟨⟨⟨ha, hb⟩, hc⟩, hd⟩ := hk
    have h2 := c_apart_4 a b c d ha hb hc hd
    cases hf : farL [a, b, c, d]
    · rw [hf] at h2
      obtain ⟨n1, n2, n3⟩ := near_of hf
      have h3 := c_side a b c ha hb hc
      have h4 : Contract Try.prog 76 [.agg [.int .i64 a.x, .int .i64 a.y, .int .i64 b.x, .int .i64 b.y, .int .i64 c.x, .int .i64 c.y], .agg (encPt d)] (.ret (.int .i64 (signE (detE a b c d)))) := c_circle a b c d ha hb hc hd n1 n2 n3
      have he : inCircE a b c d = if signE (crossE a b c) = 0 then (0, 10) else (signE (crossE a b c) * signE (detE a b c d), 0) := by simp [inCircE, hok, hf]
      have hs := sign_mul (crossE a b c) (detE a b c d)
      rw [he]
      refine contract_of mix Try.func20 rfl rfl (by rw [Try.ntmps20]; exact Nat.le_of_ble_eq_true rfl) ?_; rw [Try.results20, Try.ntmps20]; simp only [argsE, Nat.reduceAdd]
      repeat' first
           | (with_reducible apply go_op)
           | (with_reducible apply go_next)
           | ((with_reducible (show evOp _ _ _ _ _ _)); first
             | ((with_reducible (show evOp _ (.move _) _ _ _ _)) ; first | ((with_reducible apply go_mv_int); rfl; rfl) | ((with_reducible apply go_mv_bool); rfl; rfl))
             | ((with_reducible apply go_as))
             | (((with_reducible apply go_ld_agg); rfl; rfl; rfl; rfl))
             | ((with_reducible (show evOp _ (.binOp _ _ _ _ _) _ _ _ _)) ; first | ((with_reducible apply go_cmp); rfl; rfl; rfl; rfl) | ((with_reducible apply go_mul); rfl; rfl; rfl; omega))
             | ((with_reducible (show evOp _ (.call _) _ _ _ _)) ; first | ((with_reducible apply go_fn_bool); (exact purL_os rfl (by simp) rfl); (exact h1); rfl) | ((with_reducible apply go_fn_bool); (exact purL_os rfl (by simp) rfl); (exact h2); rfl) | ((with_reducible apply go_fn_int); rfl; (exact h3); rfl) | ((with_reducible apply go_fn_int); rfl; (exact h4); rfl))
             | (((with_reducible apply go_build); rfl; rfl))
             | (((with_reducible apply go_bx_agg); rfl; rfl; (exact Nat.le_of_ble_eq_true rfl); rfl; rfl))
             | (((with_reducible apply go_bs4_agg); rfl; rfl; rfl; rfl; rfl; rfl; rfl; rfl; rfl; rfl; rfl; rfl)))
           | ((with_reducible (show evOps _ _ _ _ _ _)); first
             | (with_reducible apply go_nil))
           | ((with_reducible (show evG _ _ _ _ _)); first
             | (with_reducible apply go_seq)
             | (with_reducible apply go_region)
             | ((with_reducible apply go_cond_f); rfl; rfl)
             | (((with_reducible apply go_cond); rfl) <;> (intro h; simp only [h]; try simp only [decide_eq_true_eq, decide_eq_false_iff_not, Bool.not_eq_true', Bool.not_eq_false', Bool.not_true, Bool.not_false] at h; try exact absurd trivial h))
             | (with_reducible apply go_ret)
             | (with_reducible apply go_skipc)
             | (with_reducible apply go_block))
           | (with_reducible apply go_kseq)
           | (with_reducible apply go_kseq_ret)
           | (with_reducible apply go_kblock)
           | ((with_reducible apply end_t2); rfl; rfl; rfl; rfl)
      all_goals first | (rw [if_pos (by assumption)]; rfl) | (rw [if_neg (by assumption)]; rfl)
    · rw [hf] at h2
      have he : inCircE a b c d = (0, 8) := by simp [inCircE, hok, hf]
      rw [he]
      refine contract_of mix Try.func20 rfl rfl (by rw [Try.ntmps20]; exact Nat.le_of_ble_eq_true rfl) ?_; rw [Try.results20, Try.ntmps20]; simp only [argsE, Nat.reduceAdd]
      repeat' first
           | (with_reducible apply go_op)
           | (with_reducible apply go_next)
           | ((with_reducible (show evOp _ _ _ _ _ _)); first
             | ((with_reducible (show evOp _ (.move _) _ _ _ _)) ; first | ((with_reducible apply go_mv_int); rfl; rfl) | ((with_reducible apply go_mv_bool); rfl; rfl))
             | ((with_reducible apply go_as))
             | (((with_reducible apply go_ld_agg); rfl; rfl; rfl; rfl))
             | ((with_reducible (show evOp _ (.call _) _ _ _ _)) ; first | ((with_reducible apply go_fn_bool); (exact purL_os rfl (by simp) rfl); (exact h1); rfl) | ((with_reducible apply go_fn_bool); (exact purL_os rfl (by simp) rfl); (exact h2); rfl))
             | (((with_reducible apply go_bx_agg); rfl; rfl; (exact Nat.le_of_ble_eq_true rfl); rfl; rfl))
             | (((with_reducible apply go_bs4_agg); rfl; rfl; rfl; rfl; rfl; rfl; rfl; rfl; rfl; rfl; rfl; rfl)))
           | ((with_reducible (show evOps _ _ _ _ _ _)); first
             | (with_reducible apply go_nil))
           | ((with_reducible (show evG _ _ _ _ _)); first
             | (with_reducible apply go_seq)
             | (with_reducible apply go_region)
             | ((with_reducible apply go_cond_t); rfl; rfl)
             | ((with_reducible apply go_cond_f); rfl; rfl)
             | (with_reducible apply go_ret)
             | (with_reducible apply go_block))
           | (with_reducible apply go_kseq)
           | (with_reducible apply go_kseq_ret)
           | (with_reducible apply go_kblock_ret)
           | ((with_reducible apply end_t2); rfl; rfl; rfl; rfl)
      all_goals rfl
end Go.Pv.Geo

open Go Go.Proofs Go.Pv
set_option maxHeartbeats 4000000
set_option maxRecDepth 100000
set_option linter.unusedSimpArgs false
set_option linter.unusedVariables false
namespace Go.Pv.Geo
/-- The exported functions answer 0 if a point is not in range. -/
def crossX (a b c : Pt) : Int := if (ptOK a && ptOK b && ptOK c) = true then crossE a b c else 0
def sqX (a b : Pt) : Int := if (ptOK a && ptOK b) = true then sqE a b else 0
theorem ok2 {a b : Pt} (h : (ptOK a && ptOK b) = true) : ptOK a = true ∧ ptOK b = true := by simpa using h
theorem ok3 {a b c : Pt} (h : (ptOK a && ptOK b && ptOK c) = true) : ptOK a = true ∧ ptOK b = true ∧ ptOK c = true := by
  simp only [Bool.and_eq_true] at h; exact ⟨h.1.1, h.1.2, h.2⟩
theorem ok4 {a b c d : Pt} (h : (ptOK a && ptOK b && ptOK c && ptOK d) = true) : ptOK a = true ∧ ptOK b = true ∧ ptOK c = true ∧ ptOK d = true := by
  simp only [Bool.and_eq_true] at h; exact ⟨h.1.1.1, h.1.1.2, h.1.2, h.2⟩
theorem c_Cross (a b c : Pt) : Contract Try.prog 59 [.agg (encPt a), .agg (encPt b), .agg (encPt c)] (.ret (.int .i64 (crossX a b c))) := by
  have h1 := c_outside_3 a b c
  unfold crossX
  cases hok : ptOK a && ptOK b && ptOK c
  · rw [hok] at h1
    refine contract_of mix Try.func59 rfl rfl (by rw [Try.ntmps59]; exact Nat.le_of_ble_eq_true rfl) ?_; rw [Try.results59, Try.ntmps59]; simp only [argsE, Nat.reduceAdd]
    repeat' first
           | (with_reducible apply go_op)
           | (with_reducible apply go_next)
           | ((with_reducible (show evOp _ _ _ _ _ _)); first
             | (((with_reducible apply go_mv_int); rfl; rfl))
             | ((with_reducible apply go_as))
             | (((with_reducible apply go_ld_agg); rfl; rfl; rfl; rfl))
             | (((with_reducible apply go_fn_bool); (exact purL_os rfl (by simp) rfl); (exact h1); rfl))
             | (((with_reducible apply go_bx_agg); rfl; rfl; (exact Nat.le_of_ble_eq_true rfl); rfl; rfl))
             | (((with_reducible apply go_bs3_agg); rfl; rfl; rfl; rfl; rfl; rfl; rfl; rfl; rfl; rfl)))
           | ((with_reducible (show evOps _ _ _ _ _ _)); first
             | (with_reducible apply go_nil))
           | ((with_reducible (show evG _ _ _ _ _)); first
             | (with_reducible apply go_seq)
             | (with_reducible apply go_region)
             | ((with_reducible apply go_cond_t); rfl; rfl)
             | (with_reducible apply go_ret))
           | (with_reducible apply go_kseq)
           | (with_reducible apply go_kseq_ret)
           | ((with_reducible apply end_int); rfl)
    all_goals rfl
  · rw [hok] at h1
    obtain ⟨ha, hb, hc⟩ := ok3 hok
    refine contract_of mix Try.func59 rfl rfl (by rw [Try.ntmps59]; exact Nat.le_of_ble_eq_true rfl) ?_; rw [Try.results59, Try.ntmps59]; simp only [argsE, Nat.reduceAdd]
    repeat' first
           | (with_reducible apply go_op)
           | (with_reducible apply go_next)
           | ((with_reducible (show evOp _ _ _ _ _ _)); first
             | (((with_reducible apply go_mv_int); rfl; rfl))
             | ((with_reducible apply go_as))
             | (((with_reducible apply go_ld_agg); rfl; rfl; rfl; rfl))
             | ((with_reducible (show evOp _ (.call _) _ _ _ _)) ; first | ((with_reducible apply go_fn_bool); (exact purL_os rfl (by simp) rfl); (exact h1); rfl) | ((with_reducible apply go_fn_int); rfl; (exact c_cross a b c ha hb hc); rfl))
             | (((with_reducible apply go_bx_agg); rfl; rfl; (exact Nat.le_of_ble_eq_true rfl); rfl; rfl))
             | (((with_reducible apply go_bs3_agg); rfl; rfl; rfl; rfl; rfl; rfl; rfl; rfl; rfl; rfl)))
           | ((with_reducible (show evOps _ _ _ _ _ _)); first
             | (with_reducible apply go_nil))
           | ((with_reducible (show evG _ _ _ _ _)); first
             | (with_reducible apply go_seq)
             | (with_reducible apply go_region)
             | ((with_reducible apply go_cond_f); rfl; rfl)
             | (with_reducible apply go_ret)
             | (with_reducible apply go_skipc))
           | (with_reducible apply go_kseq)
           | ((with_reducible apply end_int); rfl)
    all_goals rfl
theorem c_Orient (a b c : Pt) : Contract Try.prog 55 [.agg (encPt a), .agg (encPt b), .agg (encPt c)] (.ret (.int .i64 (signE (crossX a b c)))) := by
  refine contract_of mix Try.func55 rfl rfl (by rw [Try.ntmps55]; exact Nat.le_of_ble_eq_true rfl) ?_; rw [Try.results55, Try.ntmps55]; simp only [argsE, Nat.reduceAdd]
  repeat' first
           | (with_reducible apply go_op)
           | (with_reducible apply go_next)
           | ((with_reducible (show evOp _ _ _ _ _ _)); first
             | (((with_reducible apply go_mv_int); rfl; rfl))
             | ((with_reducible apply go_as))
             | (((with_reducible apply go_ld_agg); rfl; rfl; rfl; rfl))
             | ((with_reducible (show evOp _ (.call _) _ _ _ _)) ; first | ((with_reducible apply go_fn_int); rfl; (exact c_Cross a b c); rfl) | ((with_reducible apply go_fn_int); rfl; (exact c_compare0 _); rfl))
             | (((with_reducible apply go_bx_agg); rfl; rfl; (exact Nat.le_of_ble_eq_true rfl); rfl; rfl)))
           | ((with_reducible (show evOps _ _ _ _ _ _)); first
             | (with_reducible apply go_nil))
           | ((with_reducible (show evG _ _ _ _ _)); first
             | (with_reducible apply go_seq)
             | (with_reducible apply go_region)
             | (with_reducible apply go_ret))
           | (with_reducible apply go_kseq)
           | ((with_reducible apply end_int); rfl)
           | (with_reducible rfl)
theorem c_Square (a b : Pt) : Contract Try.prog 62 [.agg (encPt a), .agg (encPt b)] (.ret (.int .i64 (sqX a b))) := by
  have h1 := c_outside_2 a b
  unfold sqX
  cases hok : ptOK a && ptOK b
  · rw [hok] at h1
    refine contract_of mix Try.func62 rfl rfl (by rw [Try.ntmps62]; exact Nat.le_of_ble_eq_true rfl) ?_; rw [Try.results62, Try.ntmps62]; simp only [argsE, Nat.reduceAdd]
    repeat' first
           | (with_reducible apply go_op)
           | (with_reducible apply go_next)
           | ((with_reducible (show evOp _ _ _ _ _ _)); first
             | (((with_reducible apply go_mv_int); rfl; rfl))
             | ((with_reducible apply go_as))
             | (((with_reducible apply go_ld_agg); rfl; rfl; rfl; rfl))
             | (((with_reducible apply go_fn_bool); (exact purL_os rfl (by simp) rfl); (exact h1); rfl))
             | (((with_reducible apply go_bx_agg); rfl; rfl; (exact Nat.le_of_ble_eq_true rfl); rfl; rfl))
             | (((with_reducible apply go_bs2_agg); rfl; rfl; rfl; rfl; rfl; rfl; rfl; rfl)))
           | ((with_reducible (show evOps _ _ _ _ _ _)); first
             | (with_reducible apply go_nil))
           | ((with_reducible (show evG _ _ _ _ _)); first
             | (with_reducible apply go_seq)
             | (with_reducible apply go_region)
             | ((with_reducible apply go_cond_t); rfl; rfl)
             | (with_reducible apply go_ret))
           | (with_reducible apply go_kseq)
           | (with_reducible apply go_kseq_ret)
           | ((with_reducible apply end_int); rfl)
    all_goals rfl
  · rw [hok] at h1
    obtain ⟨ha, hb⟩ := ok2 hok
    refine contract_of mix Try.func62 rfl rfl (by rw [Try.ntmps62]; exact Nat.le_of_ble_eq_true rfl) ?_; rw [Try.results62, Try.ntmps62]; simp only [argsE, Nat.reduceAdd]
    repeat' first
           | (with_reducible apply go_op)
           | (with_reducible apply go_next)
           | ((with_reducible (show evOp _ _ _ _ _ _)); first
             | (((with_reducible apply go_mv_int); rfl; rfl))
             | ((with_reducible apply go_as))
             | (((with_reducible apply go_ld_agg); rfl; rfl; rfl; rfl))
             | ((with_reducible (show evOp _ (.call _) _ _ _ _)) ; first | ((with_reducible apply go_fn_bool); (exact purL_os rfl (by simp) rfl); (exact h1); rfl) | ((with_reducible apply go_fn_int); rfl; (exact c_dot a b b ha hb hb); rfl))
             | (((with_reducible apply go_bx_agg); rfl; rfl; (exact Nat.le_of_ble_eq_true rfl); rfl; rfl))
             | (((with_reducible apply go_bs2_agg); rfl; rfl; rfl; rfl; rfl; rfl; rfl; rfl)))
           | ((with_reducible (show evOps _ _ _ _ _ _)); first
             | (with_reducible apply go_nil))
           | ((with_reducible (show evG _ _ _ _ _)); first
             | (with_reducible apply go_seq)
             | (with_reducible apply go_region)
             | ((with_reducible apply go_cond_f); rfl; rfl)
             | (with_reducible apply go_ret)
             | (with_reducible apply go_skipc))
           | (with_reducible apply go_kseq)
           | ((with_reducible apply end_int); rfl)
    all_goals rfl
theorem c_Between (a b p : Pt) : Contract Try.prog 34 [.agg (encPt a), .agg (encPt b), .agg (encPt p)] (.ret (.bool (ptOK a && ptOK b && ptOK p && onE a b p))) := by
  have h1 := c_outside_3 a b p
  cases hok : ptOK a && ptOK b && ptOK p
  · rw [hok] at h1
    refine contract_of mix Try.func34 rfl rfl (by rw [Try.ntmps34]; exact Nat.le_of_ble_eq_true rfl) ?_; rw [Try.results34, Try.ntmps34]; simp only [argsE, Nat.reduceAdd]
    repeat' first
           | (with_reducible apply go_op)
           | (with_reducible apply go_next)
           | ((with_reducible (show evOp _ _ _ _ _ _)); first
             | (((with_reducible apply go_mv_bool); rfl; rfl))
             | ((with_reducible apply go_as))
             | (((with_reducible apply go_ld_agg); rfl; rfl; rfl; rfl))
             | (((with_reducible apply go_fn_bool); (exact purL_os rfl (by simp) rfl); (exact h1); rfl))
             | (((with_reducible apply go_not); rfl; rfl))
             | (((with_reducible apply go_pick); rfl; rfl; rfl))
             | (((with_reducible apply go_bx_agg); rfl; rfl; (exact Nat.le_of_ble_eq_true rfl); rfl; rfl))
             | (((with_reducible apply go_bs3_agg); rfl; rfl; rfl; rfl; rfl; rfl; rfl; rfl; rfl; rfl)))
           | ((with_reducible (show evOps _ _ _ _ _ _)); first
             | (with_reducible apply go_nil)
             | ((with_reducible apply go_pass); rfl; rfl; rfl))
           | ((with_reducible (show evG _ _ _ _ _)); first
             | (with_reducible apply go_seq)
             | (with_reducible apply go_region)
             | (with_reducible apply go_ret))
           | (with_reducible apply go_kseq)
           | ((with_reducible apply end_bool); rfl)
    all_goals rfl
  · rw [hok] at h1
    obtain ⟨ha, hb, hc⟩ := ok3 hok
    refine contract_of mix Try.func34 rfl rfl (by rw [Try.ntmps34]; exact Nat.le_of_ble_eq_true rfl) ?_; rw [Try.results34, Try.ntmps34]; simp only [argsE, Nat.reduceAdd]
    repeat' first
           | (with_reducible apply go_op)
           | (with_reducible apply go_next)
           | ((with_reducible (show evOp _ _ _ _ _ _)); first
             | (((with_reducible apply go_mv_bool); rfl; rfl))
             | ((with_reducible apply go_as))
             | (((with_reducible apply go_ld_agg); rfl; rfl; rfl; rfl))
             | ((with_reducible (show evOp _ (.call _) _ _ _ _)) ; first | ((with_reducible apply go_fn_bool); (exact purL_os rfl (by simp) rfl); (exact h1); rfl) | ((with_reducible apply go_fn_bool); rfl; (exact c_on a b p ha hb hc); rfl))
             | (((with_reducible apply go_not); rfl; rfl))
             | (((with_reducible apply go_pick); rfl; rfl; rfl))
             | (((with_reducible apply go_bx_agg); rfl; rfl; (exact Nat.le_of_ble_eq_true rfl); rfl; rfl))
             | (((with_reducible apply go_bs3_agg); rfl; rfl; rfl; rfl; rfl; rfl; rfl; rfl; rfl; rfl)))
           | ((with_reducible (show evOps _ _ _ _ _ _)); first
             | (with_reducible apply go_nil)
             | ((with_reducible apply go_run); rfl; rfl))
           | ((with_reducible (show evG _ _ _ _ _)); first
             | (with_reducible apply go_seq)
             | (with_reducible apply go_region)
             | (with_reducible apply go_ret))
           | (with_reducible apply go_kseq)
           | ((with_reducible apply end_bool); rfl)
    all_goals rfl
theorem c_Meet (a b c d : Pt) : Contract Try.prog 35 [.agg (encPt a), .agg (encPt b), .agg (encPt c), .agg (encPt d)] (.ret (.bool (ptOK a && ptOK b && ptOK c && ptOK d && meetE a b c d))) := by
  have h1 := c_outside_4 a b c d
  cases hok : ptOK a && ptOK b && ptOK c && ptOK d
  · rw [hok] at h1
    refine contract_of mix Try.func35 rfl rfl (by rw [Try.ntmps35]; exact Nat.le_of_ble_eq_true rfl) ?_; rw [Try.results35, Try.ntmps35]; simp only [argsE, Nat.reduceAdd]
    repeat' first
           | (with_reducible apply go_op)
           | (with_reducible apply go_next)
           | ((with_reducible (show evOp _ _ _ _ _ _)); first
             | (((with_reducible apply go_mv_bool); rfl; rfl))
             | ((with_reducible apply go_as))
             | (((with_reducible apply go_ld_agg); rfl; rfl; rfl; rfl))
             | (((with_reducible apply go_fn_bool); (exact purL_os rfl (by simp) rfl); (exact h1); rfl))
             | (((with_reducible apply go_not); rfl; rfl))
             | (((with_reducible apply go_pick); rfl; rfl; rfl))
             | (((with_reducible apply go_bx_agg); rfl; rfl; (exact Nat.le_of_ble_eq_true rfl); rfl; rfl))
             | (((with_reducible apply go_bs4_agg); rfl; rfl; rfl; rfl; rfl; rfl; rfl; rfl; rfl; rfl; rfl; rfl)))
           | ((with_reducible (show evOps _ _ _ _ _ _)); first
             | (with_reducible apply go_nil)
             | ((with_reducible apply go_pass); rfl; rfl; rfl))
           | ((with_reducible (show evG _ _ _ _ _)); first
             | (with_reducible apply go_seq)
             | (with_reducible apply go_region)
             | (with_reducible apply go_ret))
           | (with_reducible apply go_kseq)
           | ((with_reducible apply end_bool); rfl)
    all_goals rfl
  · rw [hok] at h1
    obtain ⟨ha, hb, hc, hd⟩ := ok4 hok
    refine contract_of mix Try.func35 rfl rfl (by rw [Try.ntmps35]; exact Nat.le_of_ble_eq_true rfl) ?_; rw [Try.results35, Try.ntmps35]; simp only [argsE, Nat.reduceAdd]
    repeat' first
           | (with_reducible apply go_op)
           | (with_reducible apply go_next)
           | ((with_reducible (show evOp _ _ _ _ _ _)); first
             | (((with_reducible apply go_mv_bool); rfl; rfl))
             | ((with_reducible apply go_as))
             | (((with_reducible apply go_ld_agg); rfl; rfl; rfl; rfl))
             | ((with_reducible (show evOp _ (.call _) _ _ _ _)) ; first | ((with_reducible apply go_fn_bool); (exact purL_os rfl (by simp) rfl); (exact h1); rfl) | ((with_reducible apply go_fn_bool); rfl; (exact c_meet a b c d ha hb hc hd); rfl))
             | (((with_reducible apply go_not); rfl; rfl))
             | (((with_reducible apply go_pick); rfl; rfl; rfl))
             | (((with_reducible apply go_bx_agg); rfl; rfl; (exact Nat.le_of_ble_eq_true rfl); rfl; rfl))
             | (((with_reducible apply go_bs4_agg); rfl; rfl; rfl; rfl; rfl; rfl; rfl; rfl; rfl; rfl; rfl; rfl)))
           | ((with_reducible (show evOps _ _ _ _ _ _)); first
             | (with_reducible apply go_nil)
             | ((with_reducible apply go_run); rfl; rfl))
           | ((with_reducible (show evG _ _ _ _ _)); first
             | (with_reducible apply go_seq)
             | (with_reducible apply go_region)
             | (with_reducible apply go_ret))
           | (with_reducible apply go_kseq)
           | ((with_reducible apply end_bool); rfl)
    all_goals rfl
def cr (b c d : Pt) : Int := (b.x - d.x) * (c.y - d.y) - (b.y - d.y) * (c.x - d.x)
def rdetE (a b c d : Pt) : Int := nrm a d * cr b c d - nrm b d * cr a c d + nrm c d * cr a b d
theorem rdet_eq (a b c d : Pt) : rdetE a b c d = detE a b c d := by
  simp only [rdetE, detE, nrm, cr, crs]; grind
theorem det_swap (a b c d : Pt) : detE b a c d = -detE a b c d := by
  simp only [detE, nrm, crs]; grind
theorem cross_swap (a b c : Pt) : crossE b a c = -crossE a b c := by
  simp only [crossE]; grind
theorem sign_neg (n : Int) : signE (-n) = -signE n := by unfold signE; (repeat' split) <;> omega
theorem c_rInCircle (a b c d : Pt) (ka : ptOK a = true) (kb : ptOK b = true) (kc : ptOK c = true) (kd : ptOK d = true) (ha : nearE a d) (hb : nearE b d) (hc : nearE c d) : Contract Try.prog 24 [.agg (encPt a), .agg (encPt b), .agg (encPt c), .agg (encPt d)] (.ret (.int .i64 (signE (detE a b c d) * signE (crossE a b c)))) := by
  have m1 := mulN ha.1 ha.1
  have m2 := mulN hb.1 hb.1
  have m3 := mulN hc.1 hc.1
  have m4 := mulN ha.2 ha.2
  have m5 := mulN hb.2 hb.2
  have m6 := mulN hc.2 hc.2
  have x1 := mulN hb.1 hc.2
  have x2 := mulN hb.2 hc.1
  have x3 := mulN ha.1 hc.2
  have x4 := mulN ha.2 hc.1
  have x5 := mulN ha.1 hb.2
  have x6 := mulN ha.2 hb.1
  have k1 := pt_bd ka
  have k2 := pt_bd kb
  have k3 := pt_bd kc
  have k4 := pt_bd kd
  have t1 := mul_abs (u := (a.x - d.x) * (a.x - d.x) + (a.y - d.y) * (a.y - d.y)) (v := (b.x - d.x) * (c.y - d.y) - (b.y - d.y) * (c.x - d.x)) (A := 800000000) (B := 800000000) (by omega) (by omega)
  have t2 := mul_abs (u := (b.x - d.x) * (b.x - d.x) + (b.y - d.y) * (b.y - d.y)) (v := (a.x - d.x) * (c.y - d.y) - (a.y - d.y) * (c.x - d.x)) (A := 800000000) (B := 800000000) (by omega) (by omega)
  have t3 := mul_abs (u := (c.x - d.x) * (c.x - d.x) + (c.y - d.y) * (c.y - d.y)) (v := (a.x - d.x) * (b.y - d.y) - (a.y - d.y) * (b.x - d.x)) (A := 800000000) (B := 800000000) (by omega) (by omega)
  have hs := sign_mul (rdetE a b c d) (crossE a b c)
  have e : rdetE a b c d = ((a.x - d.x) * (a.x - d.x) + (a.y - d.y) * (a.y - d.y)) * ((b.x - d.x) * (c.y - d.y) - (b.y - d.y) * (c.x - d.x)) - ((b.x - d.x) * (b.x - d.x) + (b.y - d.y) * (b.y - d.y)) * ((a.x - d.x) * (c.y - d.y) - (a.y - d.y) * (c.x - d.x)) + ((c.x - d.x) * (c.x - d.x) + (c.y - d.y) * (c.y - d.y)) * ((a.x - d.x) * (b.y - d.y) - (a.y - d.y) * (b.x - d.x)) := rfl
  rw [← rdet_eq]
  rw [e] at hs ⊢
  refine contract_of mix Try.func24 rfl rfl (by rw [Try.ntmps24]; exact Nat.le_of_ble_eq_true rfl) ?_; rw [Try.results24, Try.ntmps24]; simp only [argsE, Nat.reduceAdd]
  repeat' first
           | (with_reducible apply go_op)
           | (with_reducible apply go_next)
           | ((with_reducible (show evOp _ _ _ _ _ _)); first
             | (((with_reducible apply go_mv_int); rfl; rfl))
             | ((with_reducible apply go_as))
             | ((with_reducible (show evOp _ (.load _ _) _ _ _ _)) ; first | ((with_reducible apply go_ld_agg); rfl; rfl; rfl; rfl) | ((with_reducible apply go_load_own); rfl; rfl; rfl; rfl))
             | (((with_reducible apply go_fieldAddr_own); rfl; rfl; rfl))
             | ((with_reducible (show evOp _ (.binOp _ _ _ _ _) _ _ _ _)) ; first | ((with_reducible apply go_add); rfl; rfl; rfl; omega) | ((with_reducible apply go_sub); rfl; rfl; rfl; omega) | ((with_reducible apply go_mul); rfl; rfl; rfl; omega))
             | ((with_reducible (show evOp _ (.call _) _ _ _ _)) ; first | ((with_reducible apply go_fn_int); rfl; (exact c_sign _); rfl) | ((with_reducible apply go_fn_int); rfl; (exact c_rorient a b c ka kb kc); rfl))
             | (((with_reducible apply go_bx_agg); rfl; rfl; (exact Nat.le_of_ble_eq_true rfl); rfl; rfl)))
           | ((with_reducible (show evOps _ _ _ _ _ _)); first
             | (with_reducible apply go_nil)
             | ((with_reducible apply go_pre); rfl)
             | (with_reducible apply go_pre_nil)
             | ((with_reducible apply go_suf); rfl)
             | (with_reducible apply go_suf_nil))
           | ((with_reducible (show evG _ _ _ _ _)); first
             | (with_reducible apply go_seq)
             | (with_reducible apply go_region)
             | ((with_reducible apply go_order); kernel_rfl; rfl)
             | (with_reducible apply go_ret))
           | (with_reducible apply go_kseq)
           | (with_reducible apply go_ksuf)
           | ((with_reducible apply end_int); rfl)
           | (with_reducible rfl)
end Go.Pv.Geo

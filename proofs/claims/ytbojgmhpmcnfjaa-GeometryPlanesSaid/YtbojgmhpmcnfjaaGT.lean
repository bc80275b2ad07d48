import Derived.Test.YtbojgmhpmcnfjaaProg
import Derived.Test.YtbojgmhpmcnfjaaGS
import Derived.KernelRfl
/- Part of the proofs over Ytbojgmhpmcnfjaa: H31, H32. -/
set_option linter.unusedVariables false
set_option linter.unusedSimpArgs false
set_option linter.unnecessarySimpa false
open Go Go.Proofs Go.Pv
set_option maxHeartbeats 4000000
set_option maxRecDepth 100000
set_option linter.unusedSimpArgs false
set_option linter.unusedVariables false
namespace Go.Pv.Geo
/-- A coordinate as the law takes it. -/
def mdE (n : Int) : Int := n % 1000 - 500
theorem md_bd (n : Int) : -500 ≤ mdE n ∧ mdE n ≤ 499 := by unfold mdE; omega
def q11 (n : Int) : Int := n.tmod 11
theorem q11_bd (n : Int) : -10 ≤ q11 n ∧ q11 n ≤ 10 := by
  have h1 := Int.natAbs_tmod n 11
  have h2 := Nat.mod_lt n.natAbs (show 0 < (11 : Int).natAbs by decide)
  have h3 : (11 : Int).natAbs = 11 := rfl
  rw [h3] at h1 h2
  unfold q11; omega
def plN (u v w : Int) (p : Pt) : Nd := ⟨mdE p.x, mdE p.y, q11 u * mdE p.x + q11 v * mdE p.y + w⟩
def mdP (p : Pt) : Pt := ⟨mdE p.x, mdE p.y⟩
theorem mdP_ok (p : Pt) : ptOK (mdP p) = true := by
  have h1 := md_bd p.x
  have h2 := md_bd p.y
  exact decide_eq_true (p := (-1000000 ≤ mdE p.x ∧ mdE p.x ≤ 1000000) ∧ (-1000000 ≤ mdE p.y ∧ mdE p.y ≤ 1000000)) (by omega)
theorem q_mul (u n : Int) : -5000 ≤ q11 u * mdE n ∧ q11 u * mdE n ≤ 5000 := by
  have := mul_abs (A := 10) (B := 500) (q11_bd u) (v := mdE n) (by have := md_bd n; omega)
  omega
theorem pl_bd (u v w : Int) (hw : -128 ≤ w ∧ w ≤ 127) (p : Pt) : -10128 ≤ (plN u v w p).lev ∧ (plN u v w p).lev ≤ 10127 := by
  have := q_mul u p.x
  have := q_mul v p.y
  simp only [plN]; omega
theorem pl_ok (u v w : Int) (hw : -128 ≤ w ∧ w ≤ 127) (p : Pt) : ndOK (plN u v w p) = true := by
  have := pl_bd u v w hw p
  simp only [ndOK, Bool.and_eq_true]
  exact ⟨mdP_ok p, by simp only [lvOK, decide_eq_true_eq]; omega⟩
/-- The levels of a plane, each by the area across from it. -/
theorem pl_det (u v w : Int) (a b c p : Pt) : (plN u v w a).lev * crossE (mdP b) (mdP c) (mdP p) + (plN u v w b).lev * crossE (mdP c) (mdP a) (mdP p) + (plN u v w c).lev * crossE (mdP a) (mdP b) (mdP p) = (plN u v w p).lev * crossE (mdP a) (mdP b) (mdP c) := by
  simp only [plN, mdP, crossE]
  grind
theorem low_mul (n d : Int) (h : d ≠ 0) : lowE (n * d) d = (n, 1) := by
  have key : ∀ e : Int, 0 < e → lowN (n * e) e = (n, 1) := fun e he => by
    have hg : (Nat.gcd (n * e).natAbs e.natAbs : Int) = e := by
      rw [Int.natAbs_mul, Nat.gcd_eq_right (Nat.dvd_mul_left _ _)]; omega
    rw [lowN, hg, Int.mul_tdiv_cancel _ (by omega), Int.tdiv_self (by omega)]
  unfold lowE
  split
  · rw [show 0 - n * d = n * (0 - d) by rw [Int.mul_sub, Int.mul_zero], key _ (by omega)]
  · exact key d (by omega)
theorem cross_rev (a b c : Pt) : crossE c b a = - crossE a b c := by simp only [crossE]; grind
theorem abs_neg (n : Int) : absE (-n) = absE n := by unfold absE; (repeat' split) <;> omega
/-- What the level of a plane's nodes is. -/
theorem pl_level (u v w : Int) (hw : -128 ≤ w ∧ w ≤ 127) (a b c p : Pt) (h : crossE (mdP a) (mdP b) (mdP c) ≠ 0) :
    levelR [plN u v w a, plN u v w b, plN u v w c, plN u v w p] ⟨0, 1, 2⟩ (mdP p) = .tup [.agg [.int .i64 (plN u v w p).lev, .int .i64 1], .int .i64 0] := by
  have hz : nodeE [plN u v w a, plN u v w b, plN u v w c, plN u v w p] ⟨0, 1, 2⟩ = 0 := by
    rw [nodeE_r (by simp) (by intro j hj; rcases List.mem_iff_getElem.2 ⟨j, hj, rfl⟩ with h; simp only [List.mem_cons, List.not_mem_nil, or_false] at h; rcases h with h | h | h | h <;> rw [h] <;> exact pl_ok u v w hw _)]
    rw [if_neg (by simp [hasE])]; exact if_neg h
  rw [levelR, if_pos hz, if_pos (mdP_ok p), levelD]
  have hd : detN [plN u v w a, plN u v w b, plN u v w c, plN u v w p] ⟨0, 1, 2⟩ (mdP p) = (plN u v w p).lev * crossE (mdP a) (mdP b) (mdP c) := pl_det u v w a b c p
  rw [hd, show dblE [plN u v w a, plN u v w b, plN u v w c, plN u v w p] ⟨0, 1, 2⟩ = crossE (mdP a) (mdP b) (mdP c) from rfl, low_mul _ _ h]
theorem pl_level' (u v w : Int) (hw : -128 ≤ w ∧ w ≤ 127) (a b c p : Pt) (h : crossE (mdP a) (mdP b) (mdP c) ≠ 0) :
    levelR [plN u v w a, plN u v w b, plN u v w c, plN u v w p] ⟨2, 1, 0⟩ (mdP p) = .tup [.agg [.int .i64 (plN u v w p).lev, .int .i64 1], .int .i64 0] := by
  have h' : crossE (mdP c) (mdP b) (mdP a) ≠ 0 := by rw [cross_rev]; omega
  have hz : nodeE [plN u v w a, plN u v w b, plN u v w c, plN u v w p] ⟨2, 1, 0⟩ = 0 := by
    rw [nodeE_r (by simp) (by intro j hj; rcases List.mem_iff_getElem.2 ⟨j, hj, rfl⟩ with h; simp only [List.mem_cons, List.not_mem_nil, or_false] at h; rcases h with h | h | h | h <;> rw [h] <;> exact pl_ok u v w hw _)]
    rw [if_neg (by simp [hasE])]; exact if_neg h'
  rw [levelR, if_pos hz, if_pos (mdP_ok p), levelD]
  have hd : detN [plN u v w a, plN u v w b, plN u v w c, plN u v w p] ⟨2, 1, 0⟩ (mdP p) = (plN u v w p).lev * crossE (mdP c) (mdP b) (mdP a) := pl_det u v w c b a p
  rw [hd, show dblE [plN u v w a, plN u v w b, plN u v w c, plN u v w p] ⟨2, 1, 0⟩ = crossE (mdP c) (mdP b) (mdP a) from rfl, low_mul _ _ h']
theorem pl_flat (u v w : Int) (hw : -128 ≤ w ∧ w ≤ 127) (a b c p : Pt) (h : crossE (mdP a) (mdP b) (mdP c) = 0) : nodeE [plN u v w a, plN u v w b, plN u v w c, plN u v w p] ⟨0, 1, 2⟩ = 10 ∧ nodeE [plN u v w a, plN u v w b, plN u v w c, plN u v w p] ⟨2, 1, 0⟩ = 10 := by
  have h' : crossE (mdP c) (mdP b) (mdP a) = 0 := by rw [cross_rev]; omega
  have hok : ∀ j (hj : j < [plN u v w a, plN u v w b, plN u v w c, plN u v w p].length), ndOK ([plN u v w a, plN u v w b, plN u v w c, plN u v w p][j]) = true := by
    intro j hj; rcases List.mem_iff_getElem.2 ⟨j, hj, rfl⟩ with h; simp only [List.mem_cons, List.not_mem_nil, or_false] at h; rcases h with h | h | h | h <;> rw [h] <;> exact pl_ok u v w hw _
  constructor
  · rw [nodeE_r (by simp) hok, if_neg (by simp [hasE])]; exact if_pos h
  · rw [nodeE_r (by simp) hok, if_neg (by simp [hasE])]; exact if_pos h'
theorem pl_prism (u v w : Int) (hw : -128 ≤ w ∧ w ≤ 127) (a b c p : Pt) (h : crossE (mdP a) (mdP b) (mdP c) ≠ 0) :
    prismR [plN u v w a, plN u v w b, plN u v w c, plN u v w p] ⟨0, 1, 2⟩ 0 = (absE (crossE (mdP a) (mdP b) (mdP c)) * ((plN u v w a).lev + (plN u v w b).lev + (plN u v w c).lev), 0) := by
  have hok : ∀ j (hj : j < [plN u v w a, plN u v w b, plN u v w c, plN u v w p].length), ndOK ([plN u v w a, plN u v w b, plN u v w c, plN u v w p][j]) = true := by
    intro j hj; rcases List.mem_iff_getElem.2 ⟨j, hj, rfl⟩ with h; simp only [List.mem_cons, List.not_mem_nil, or_false] at h; rcases h with h | h | h | h <;> rw [h] <;> exact pl_ok u v w hw _
  have hz : nodeE [plN u v w a, plN u v w b, plN u v w c, plN u v w p] ⟨0, 1, 2⟩ = 0 := by
    rw [nodeE_r (by simp) hok, if_neg (by simp [hasE])]; exact if_neg h
  rw [prismR, if_pos hz, if_pos (by decide), prismE]
  have e : (ndI [plN u v w a, plN u v w b, plN u v w c, plN u v w p] 0).lev + (ndI [plN u v w a, plN u v w b, plN u v w c, plN u v w p] 1).lev + (ndI [plN u v w a, plN u v w b, plN u v w c, plN u v w p] 2).lev - 3 * 0 = (plN u v w a).lev + (plN u v w b).lev + (plN u v w c).lev := by
    rw [show (3 : Int) * 0 = 0 from rfl, Int.sub_zero]; rfl
  rw [e]; rfl
end Go.Pv.Geo

open Go Go.Proofs Go.Pv
set_option maxHeartbeats 4000000
set_option maxRecDepth 100000
set_option linter.unusedSimpArgs false
set_option linter.unusedVariables false
namespace Go.Pv.Geo
instance tint3 : TInt Try.prog 3 .i64 := ⟨by kernel_rfl⟩
instance tint72 : TInt Try.prog 72 .i8 := ⟨by kernel_rfl⟩
def encQ4 (a b c d : Pt) : List D := [.int .i64 a.x, .int .i64 a.y, .int .i64 b.x, .int .i64 b.y, .int .i64 c.x, .int .i64 c.y, .int .i64 d.x, .int .i64 d.y]
theorem c_modA (n : Int) : Contract Try.prog 53 [.int .i64 n, .int .i64 1000] (.ret (.int .i64 (n % 1000))) := by
  have e1 := Int.emod_nonneg n (show (1000 : Int) ≠ 0 by omega)
  have e2 := Int.emod_lt_of_pos n (show (0 : Int) < 1000 by omega)
  have e3 : n.tmod 1000 = if 0 ≤ n ∨ (1000 : Int) ∣ n then n % 1000 else n % 1000 - 1000 := by
    rw [Int.tmod_eq_emod]
    split <;> rename_i h
    · omega
    · rfl
  refine contract_of mix Try.func53 rfl rfl (by rw [Try.ntmps53]; exact Nat.le_of_ble_eq_true rfl) ?_; rw [Try.results53, Try.ntmps53]; simp only [argsE, Nat.reduceAdd]
  repeat' first
           | (with_reducible apply go_op)
           | (with_reducible apply go_next)
           | ((with_reducible (show evOp _ _ _ _ _ _)); first
             | (((with_reducible apply go_mv_int); rfl; rfl))
             | ((with_reducible apply go_as))
             | ((with_reducible (show evOp _ (.binOp _ _ _ _ _) _ _ _ _)) ; first | ((with_reducible apply go_cmp); rfl; rfl; rfl; rfl) | ((with_reducible apply go_add); rfl; rfl; rfl; omega) | ((with_reducible apply go_rem); rfl; rfl; rfl; omega)))
           | ((with_reducible (show evOps _ _ _ _ _ _)); first
             | (with_reducible apply go_nil))
           | ((with_reducible (show evG _ _ _ _ _)); first
             | (with_reducible apply go_seq)
             | (with_reducible apply go_region)
             | (((with_reducible apply go_cond); rfl) <;> (intro h; simp only [h]; try simp only [decide_eq_true_eq, decide_eq_false_iff_not, Bool.not_eq_true', Bool.not_eq_false', Bool.not_true, Bool.not_false] at h; try exact absurd trivial h))
             | (with_reducible apply go_ret)
             | (with_reducible apply go_skipc))
           | (with_reducible apply go_kseq)
           | ((with_reducible apply end_int); rfl)
  · split at e3 <;> omega
  · split at e3 <;> omega
abbrev listS : Nat → D
  | 0 => .nilsl
  | i + 1 => .os 1 0 (i + 1)
abbrev arrS (a b c d : Pt) : Nat → List D
  | 0 => encQ4 a b c d
  | 1 => encQ4 (mdP a) b c d
  | 2 => encQ4 (mdP a) (mdP b) c d
  | 3 => encQ4 (mdP a) (mdP b) (mdP c) d
  | _ => encQ4 (mdP a) (mdP b) (mdP c) (mdP d)
abbrev blkS (u v w : Int) (a b c d : Pt) : Nat → List (Nat × Blk)
  | 0 => []
  | 1 => [(1, ⟨3, true, [encNd (plN u v w a)]⟩)]
  | 2 => [(1, ⟨3, true, [encNd (plN u v w a), encNd (plN u v w b)]⟩)]
  | 3 => [(1, ⟨3, true, [encNd (plN u v w a), encNd (plN u v w b), encNd (plN u v w c)]⟩)]
  | _ => [(1, ⟨3, true, [encNd (plN u v w a), encNd (plN u v w b), encNd (plN u v w c), encNd (plN u v w d)]⟩)]
theorem c12 (a b c p : Pt) (u v w : Int) (hu : -128 ≤ u ∧ u ≤ 127) (hv : -128 ≤ v ∧ v ≤ 127) (hw : -128 ≤ w ∧ w ≤ 127) : Contract Try.prog 12 [.agg (encQ4 a b c p), .agg [.int .i8 u, .int .i8 v, .int .i8 w]] (.ret (.bool true)) := by
  refine contract_of mix Try.func12 rfl rfl (by rw [Try.ntmps12]; exact Nat.le_of_ble_eq_true rfl) ?_; rw [Try.results12, Try.ntmps12]; simp only [argsE, Nat.reduceAdd]
  repeat' first
           | (with_reducible apply go_op)
           | (with_reducible apply go_next)
           | ((with_reducible (show evOp _ _ _ _ _ _)); first
             | ((with_reducible (show evOp _ (.move _) _ _ _ _)) ; first | ((with_reducible apply go_mv_int); rfl; rfl) | ((with_reducible apply go_mv_bool); rfl; rfl) | ((with_reducible apply go_mv_nilsl); rfl; rfl))
             | ((with_reducible apply go_as))
             | (((with_reducible apply go_load_own); rfl; rfl; rfl; rfl))
             | (((with_reducible apply go_index_arr); rfl; rfl; rfl; rfl; omega))
             | (((with_reducible apply go_rem); rfl; rfl; rfl; omega))
             | (((with_reducible apply go_fn_bool); rfl; (exact c_awake); rfl))
             | (((with_reducible apply go_not); rfl; rfl))
             | (((with_reducible apply go_conv64); rfl; rfl; omega))
             | (((with_reducible apply go_bx_agg); rfl; rfl; (exact Nat.le_of_ble_eq_true rfl); rfl; rfl)))
           | ((with_reducible (show evOps _ _ _ _ _ _)); first
             | (with_reducible apply go_nil)
             | ((with_reducible apply go_pre); rfl)
             | (with_reducible apply go_pre_nil)
             | ((with_reducible apply go_suf); rfl)
             | (with_reducible apply go_suf_nil))
           | ((with_reducible (show evG _ _ _ _ _)); first
             | (with_reducible apply go_seq)
             | (with_reducible apply go_region)
             | ((with_reducible apply go_cond_f); rfl; rfl)
             | ((with_reducible apply go_order); kernel_rfl; rfl)
             | (with_reducible apply go_skipc)
             | (with_reducible apply go_block))
           | (with_reducible apply go_kseq)
           | (with_reducible apply go_ksuf)
  refine go_count 4 (fun i => ⟨[(9, .int .i64 i), (5, listS i), (2, .op 0 0 0), (6, .int .i64 (q11 u)), (7, .int .i64 (q11 v)), (8, .int .i64 w), (4, .bool false)], (0, ⟨8, true, [arrS a b c p i]⟩) :: blkS u v w a b c p i, 64, 173⟩) (fun _ => True)
    (entails_eq (nx := 64) (k := 0) (ns := []) (ks := [9, 5, 2, 6, 7, 8, 4]) [(0, 0)] rfl (by simp) (by kernel_rfl)) trivial ?_
  intro i hi _
  have hc4 : i = 0 ∨ i = 1 ∨ i = 2 ∨ i = 3 ∨ i = 4 := by omega
  rcases hc4 with rfl | rfl | rfl | rfl | rfl
  · have m1 := q_mul u a.x
    have m2 := q_mul v a.y
    simp only [mdE] at m1 m2
    repeat' first
           | (with_reducible apply go_op)
           | (with_reducible apply go_next)
           | ((with_reducible (show evOp _ _ _ _ _ _)); first
             | ((with_reducible (show evOp _ (.move _) _ _ _ _)) ; first | ((with_reducible apply go_mv_int); rfl; rfl) | ((with_reducible apply go_mv_nilsl); rfl; rfl))
             | (((with_reducible apply go_load_own); rfl; rfl; rfl; rfl))
             | (((with_reducible apply go_fieldAddr_own); rfl; rfl; rfl))
             | (((with_reducible apply go_index_arr); rfl; rfl; rfl; rfl; omega))
             | ((with_reducible (show evOp _ (.binOp _ _ _ _ _) _ _ _ _)) ; first | ((with_reducible apply go_cmp); rfl; rfl; rfl; rfl) | ((with_reducible apply go_add); rfl; rfl; rfl; omega) | ((with_reducible apply go_sub); rfl; rfl; rfl; omega) | ((with_reducible apply go_mul); rfl; rfl; rfl; omega))
             | (((with_reducible apply go_fn_int); rfl; (exact c_modA _); rfl))
             | (((with_reducible apply go_store); rfl; rfl; rfl; rfl; rfl; rfl; (exact Nat.le_of_ble_eq_true rfl); (first | exact Nat.le_of_ble_eq_true rfl | omega); rfl; rfl))
             | (((with_reducible apply go_bd3_iii); rfl; rfl; rfl; rfl; rfl))
             | (((with_reducible apply go_bs1_agg); rfl; rfl; rfl; rfl; rfl; rfl)))
           | ((with_reducible (show evOps _ _ _ _ _ _)); first
             | (with_reducible apply go_nil)
             | ((with_reducible apply go_pre); rfl)
             | ((with_reducible apply go_pre_stop); rfl)
             | ((with_reducible apply go_suf); rfl)
             | ((with_reducible apply go_suf_stop); rfl)
             | (with_reducible apply go_take)
             | (with_reducible apply go_take0))
           | ((with_reducible (show evG _ _ _ _ _)); first
             | (with_reducible apply go_seq)
             | (with_reducible apply go_region)
             | ((with_reducible apply go_cond_t); rfl; rfl)
             | ((with_reducible apply (go_drawL 16 [[1, 13], [], [], []])); decide +kernel; rfl)
             | ((with_reducible apply go_order); kernel_rfl; rfl)
             | (with_reducible apply go_skipc)
             | (with_reducible apply go_block))
           | (with_reducible apply go_klined)
           | (with_reducible apply go_line_drop)
           | (with_reducible apply go_line_drop0)
           | (with_reducible apply go_line)
           | (with_reducible apply go_line_nil)
           | (with_reducible apply go_kln)
           | (with_reducible apply go_again_nil)
           | ((with_reducible apply go_again); rfl; (intro id'))
           | ((with_reducible apply go_kagain); rfl)
           | (with_reducible apply go_kseq)
           | (with_reducible apply go_ksuf)
    refine go_append_new (go_app_nil (f := encNd) (a := plN u v w a) scalNd rfl rfl rfl rfl (by kernel_rfl) (by kernel_rfl)) rfl ?_
    repeat' first
           | (with_reducible apply go_op)
           | (with_reducible apply go_next)
           | ((with_reducible (show evOp _ _ _ _ _ _)); first
             | ((with_reducible (show evOp _ (.move _) _ _ _ _)) ; first | ((with_reducible apply go_mv_int); rfl; rfl) | ((with_reducible apply go_mv_os); rfl; rfl))
             | ((with_reducible apply go_as))
             | (((with_reducible apply go_add); rfl; rfl; rfl; omega)))
           | ((with_reducible (show evOps _ _ _ _ _ _)); first
             | (with_reducible apply go_nil))
           | ((with_reducible (show evG _ _ _ _ _)); first
             | (with_reducible apply go_region))
           | (with_reducible apply go_kseq)
           | (with_reducible apply go_kblock)
    exact ⟨by omega, trivial, entails_eq (nx := 64) (k := 0) (ns := []) (ks := [9, 5, 2, 6, 7, 8, 4]) [(0, 0), (3648, 1)] rfl (by simp) (by kernel_rfl)⟩
  · have m1 := q_mul u b.x
    have m2 := q_mul v b.y
    simp only [mdE] at m1 m2
    repeat' first
           | (with_reducible apply go_op)
           | (with_reducible apply go_next)
           | ((with_reducible (show evOp _ _ _ _ _ _)); first
             | ((with_reducible (show evOp _ (.move _) _ _ _ _)) ; first | ((with_reducible apply go_mv_int); rfl; rfl) | ((with_reducible apply go_mv_os); rfl; rfl))
             | (((with_reducible apply go_load_own); rfl; rfl; rfl; rfl))
             | (((with_reducible apply go_fieldAddr_own); rfl; rfl; rfl))
             | (((with_reducible apply go_index_arr); rfl; rfl; rfl; rfl; omega))
             | ((with_reducible (show evOp _ (.binOp _ _ _ _ _) _ _ _ _)) ; first | ((with_reducible apply go_cmp); rfl; rfl; rfl; rfl) | ((with_reducible apply go_add); rfl; rfl; rfl; omega) | ((with_reducible apply go_sub); rfl; rfl; rfl; omega) | ((with_reducible apply go_mul); rfl; rfl; rfl; omega))
             | (((with_reducible apply go_fn_int); rfl; (exact c_modA _); rfl))
             | (((with_reducible apply go_store); rfl; rfl; rfl; rfl; rfl; rfl; (exact Nat.le_of_ble_eq_true rfl); (first | exact Nat.le_of_ble_eq_true rfl | omega); rfl; rfl))
             | (((with_reducible apply go_bd3_iii); rfl; rfl; rfl; rfl; rfl))
             | (((with_reducible apply go_bs1_agg); rfl; rfl; rfl; rfl; rfl; rfl)))
           | ((with_reducible (show evOps _ _ _ _ _ _)); first
             | (with_reducible apply go_nil)
             | ((with_reducible apply go_pre); rfl)
             | ((with_reducible apply go_pre_stop); rfl)
             | ((with_reducible apply go_suf); rfl)
             | ((with_reducible apply go_suf_stop); rfl)
             | (with_reducible apply go_take)
             | (with_reducible apply go_take0))
           | ((with_reducible (show evG _ _ _ _ _)); first
             | (with_reducible apply go_seq)
             | (with_reducible apply go_region)
             | ((with_reducible apply go_cond_t); rfl; rfl)
             | ((with_reducible apply (go_drawL 16 [[1, 13], [], [], []])); decide +kernel; rfl)
             | ((with_reducible apply go_order); kernel_rfl; rfl)
             | (with_reducible apply go_skipc)
             | (with_reducible apply go_block))
           | (with_reducible apply go_klined)
           | (with_reducible apply go_line_drop)
           | (with_reducible apply go_line_drop0)
           | (with_reducible apply go_line)
           | (with_reducible apply go_line_nil)
           | (with_reducible apply go_kln)
           | (with_reducible apply go_again_nil)
           | ((with_reducible apply go_again); rfl; (intro id'))
           | ((with_reducible apply go_kagain); rfl)
           | (with_reducible apply go_kseq)
           | (with_reducible apply go_ksuf)
    refine go_app_map (f := encNd) (a := plN u v w b) (l := [plN u v w a]) scalNd rfl rfl rfl rfl rfl rfl (by kernel_rfl) (by kernel_rfl) (by simp) rfl ?_
    repeat' first
           | (with_reducible apply go_op)
           | (with_reducible apply go_next)
           | ((with_reducible (show evOp _ _ _ _ _ _)); first
             | ((with_reducible (show evOp _ (.move _) _ _ _ _)) ; first | ((with_reducible apply go_mv_int); rfl; rfl) | ((with_reducible apply go_mv_os); rfl; rfl))
             | ((with_reducible apply go_as))
             | (((with_reducible apply go_add); rfl; rfl; rfl; omega)))
           | ((with_reducible (show evOps _ _ _ _ _ _)); first
             | (with_reducible apply go_nil))
           | ((with_reducible (show evG _ _ _ _ _)); first
             | (with_reducible apply go_region))
           | (with_reducible apply go_kseq)
           | (with_reducible apply go_kblock)
    exact ⟨by omega, trivial, entails_eq (nx := 64) (k := 0) (ns := []) (ks := [9, 5, 2, 6, 7, 8, 4]) [(0, 0), (1, 1)] rfl (by simp) (by kernel_rfl)⟩
  · have m1 := q_mul u c.x
    have m2 := q_mul v c.y
    simp only [mdE] at m1 m2
    repeat' first
           | (with_reducible apply go_op)
           | (with_reducible apply go_next)
           | ((with_reducible (show evOp _ _ _ _ _ _)); first
             | ((with_reducible (show evOp _ (.move _) _ _ _ _)) ; first | ((with_reducible apply go_mv_int); rfl; rfl) | ((with_reducible apply go_mv_os); rfl; rfl))
             | (((with_reducible apply go_load_own); rfl; rfl; rfl; rfl))
             | (((with_reducible apply go_fieldAddr_own); rfl; rfl; rfl))
             | (((with_reducible apply go_index_arr); rfl; rfl; rfl; rfl; omega))
             | ((with_reducible (show evOp _ (.binOp _ _ _ _ _) _ _ _ _)) ; first | ((with_reducible apply go_cmp); rfl; rfl; rfl; rfl) | ((with_reducible apply go_add); rfl; rfl; rfl; omega) | ((with_reducible apply go_sub); rfl; rfl; rfl; omega) | ((with_reducible apply go_mul); rfl; rfl; rfl; omega))
             | (((with_reducible apply go_fn_int); rfl; (exact c_modA _); rfl))
             | (((with_reducible apply go_store); rfl; rfl; rfl; rfl; rfl; rfl; (exact Nat.le_of_ble_eq_true rfl); (first | exact Nat.le_of_ble_eq_true rfl | omega); rfl; rfl))
             | (((with_reducible apply go_bd3_iii); rfl; rfl; rfl; rfl; rfl))
             | (((with_reducible apply go_bs1_agg); rfl; rfl; rfl; rfl; rfl; rfl)))
           | ((with_reducible (show evOps _ _ _ _ _ _)); first
             | (with_reducible apply go_nil)
             | ((with_reducible apply go_pre); rfl)
             | ((with_reducible apply go_pre_stop); rfl)
             | ((with_reducible apply go_suf); rfl)
             | ((with_reducible apply go_suf_stop); rfl)
             | (with_reducible apply go_take)
             | (with_reducible apply go_take0))
           | ((with_reducible (show evG _ _ _ _ _)); first
             | (with_reducible apply go_seq)
             | (with_reducible apply go_region)
             | ((with_reducible apply go_cond_t); rfl; rfl)
             | ((with_reducible apply (go_drawL 16 [[1, 13], [], [], []])); decide +kernel; rfl)
             | ((with_reducible apply go_order); kernel_rfl; rfl)
             | (with_reducible apply go_skipc)
             | (with_reducible apply go_block))
           | (with_reducible apply go_klined)
           | (with_reducible apply go_line_drop)
           | (with_reducible apply go_line_drop0)
           | (with_reducible apply go_line)
           | (with_reducible apply go_line_nil)
           | (with_reducible apply go_kln)
           | (with_reducible apply go_again_nil)
           | ((with_reducible apply go_again); rfl; (intro id'))
           | ((with_reducible apply go_kagain); rfl)
           | (with_reducible apply go_kseq)
           | (with_reducible apply go_ksuf)
    refine go_app_map (f := encNd) (a := plN u v w c) (l := [plN u v w a, plN u v w b]) scalNd rfl rfl rfl rfl rfl rfl (by kernel_rfl) (by kernel_rfl) (by simp) rfl ?_
    repeat' first
           | (with_reducible apply go_op)
           | (with_reducible apply go_next)
           | ((with_reducible (show evOp _ _ _ _ _ _)); first
             | ((with_reducible (show evOp _ (.move _) _ _ _ _)) ; first | ((with_reducible apply go_mv_int); rfl; rfl) | ((with_reducible apply go_mv_os); rfl; rfl))
             | ((with_reducible apply go_as))
             | (((with_reducible apply go_add); rfl; rfl; rfl; omega)))
           | ((with_reducible (show evOps _ _ _ _ _ _)); first
             | (with_reducible apply go_nil))
           | ((with_reducible (show evG _ _ _ _ _)); first
             | (with_reducible apply go_region))
           | (with_reducible apply go_kseq)
           | (with_reducible apply go_kblock)
    exact ⟨by omega, trivial, entails_eq (nx := 64) (k := 0) (ns := []) (ks := [9, 5, 2, 6, 7, 8, 4]) [(0, 0), (1, 1)] rfl (by simp) (by kernel_rfl)⟩
  · have m1 := q_mul u p.x
    have m2 := q_mul v p.y
    simp only [mdE] at m1 m2
    repeat' first
           | (with_reducible apply go_op)
           | (with_reducible apply go_next)
           | ((with_reducible (show evOp _ _ _ _ _ _)); first
             | ((with_reducible (show evOp _ (.move _) _ _ _ _)) ; first | ((with_reducible apply go_mv_int); rfl; rfl) | ((with_reducible apply go_mv_os); rfl; rfl))
             | (((with_reducible apply go_load_own); rfl; rfl; rfl; rfl))
             | (((with_reducible apply go_fieldAddr_own); rfl; rfl; rfl))
             | (((with_reducible apply go_index_arr); rfl; rfl; rfl; rfl; omega))
             | ((with_reducible (show evOp _ (.binOp _ _ _ _ _) _ _ _ _)) ; first | ((with_reducible apply go_cmp); rfl; rfl; rfl; rfl) | ((with_reducible apply go_add); rfl; rfl; rfl; omega) | ((with_reducible apply go_sub); rfl; rfl; rfl; omega) | ((with_reducible apply go_mul); rfl; rfl; rfl; omega))
             | (((with_reducible apply go_fn_int); rfl; (exact c_modA _); rfl))
             | (((with_reducible apply go_store); rfl; rfl; rfl; rfl; rfl; rfl; (exact Nat.le_of_ble_eq_true rfl); (first | exact Nat.le_of_ble_eq_true rfl | omega); rfl; rfl))
             | (((with_reducible apply go_bd3_iii); rfl; rfl; rfl; rfl; rfl))
             | (((with_reducible apply go_bs1_agg); rfl; rfl; rfl; rfl; rfl; rfl)))
           | ((with_reducible (show evOps _ _ _ _ _ _)); first
             | (with_reducible apply go_nil)
             | ((with_reducible apply go_pre); rfl)
             | ((with_reducible apply go_pre_stop); rfl)
             | ((with_reducible apply go_suf); rfl)
             | ((with_reducible apply go_suf_stop); rfl)
             | (with_reducible apply go_take)
             | (with_reducible apply go_take0))
           | ((with_reducible (show evG _ _ _ _ _)); first
             | (with_reducible apply go_seq)
             | (with_reducible apply go_region)
             | ((with_reducible apply go_cond_t); rfl; rfl)
             | ((with_reducible apply (go_drawL 16 [[1, 13], [], [], []])); decide +kernel; rfl)
             | ((with_reducible apply go_order); kernel_rfl; rfl)
             | (with_reducible apply go_skipc)
             | (with_reducible apply go_block))
           | (with_reducible apply go_klined)
           | (with_reducible apply go_line_drop)
           | (with_reducible apply go_line_drop0)
           | (with_reducible apply go_line)
           | (with_reducible apply go_line_nil)
           | (with_reducible apply go_kln)
           | (with_reducible apply go_again_nil)
           | ((with_reducible apply go_again); rfl; (intro id'))
           | ((with_reducible apply go_kagain); rfl)
           | (with_reducible apply go_kseq)
           | (with_reducible apply go_ksuf)
    refine go_app_map (f := encNd) (a := plN u v w p) (l := [plN u v w a, plN u v w b, plN u v w c]) scalNd rfl rfl rfl rfl rfl rfl (by kernel_rfl) (by kernel_rfl) (by simp) rfl ?_
    repeat' first
           | (with_reducible apply go_op)
           | (with_reducible apply go_next)
           | ((with_reducible (show evOp _ _ _ _ _ _)); first
             | ((with_reducible (show evOp _ (.move _) _ _ _ _)) ; first | ((with_reducible apply go_mv_int); rfl; rfl) | ((with_reducible apply go_mv_os); rfl; rfl))
             | ((with_reducible apply go_as))
             | (((with_reducible apply go_add); rfl; rfl; rfl; omega)))
           | ((with_reducible (show evOps _ _ _ _ _ _)); first
             | (with_reducible apply go_nil))
           | ((with_reducible (show evG _ _ _ _ _)); first
             | (with_reducible apply go_region))
           | (with_reducible apply go_kseq)
           | (with_reducible apply go_kblock)
    exact ⟨by omega, trivial, entails_eq (nx := 64) (k := 0) (ns := []) (ks := [9, 5, 2, 6, 7, 8, 4]) [(0, 0), (1, 1)] rfl (by simp) (by kernel_rfl)⟩
  · show evG Entails Try.prog _ _ ⟨[(9, .int .i64 4), (5, .os 1 0 4), (2, .op 0 0 0), (6, .int .i64 (q11 u)), (7, .int .i64 (q11 v)), (8, .int .i64 w), (4, .bool false)], [(0, ⟨8, true, [encQ4 (mdP a) (mdP b) (mdP c) (mdP p)]⟩), (1, ⟨3, true, [encNd (plN u v w a), encNd (plN u v w b), encNd (plN u v w c), encNd (plN u v w p)]⟩)], 64, 173⟩
    have f1 := c_Level [plN u v w a, plN u v w b, plN u v w c, plN u v w p] (by simp) ⟨0, 1, 2⟩ (mdP p)
    have f2 := c_Level [plN u v w a, plN u v w b, plN u v w c, plN u v w p] (by simp) ⟨2, 1, 0⟩ (mdP p)
    have f3 := c_Prism [plN u v w a, plN u v w b, plN u v w c, plN u v w p] (by simp) ⟨0, 1, 2⟩ 0
    have o1 : Contract Try.prog 23 [.agg [.int .i64 (mdP a).x, .int .i64 (mdP a).y], .agg [.int .i64 (mdP b).x, .int .i64 (mdP b).y], .agg [.int .i64 (mdP c).x, .int .i64 (mdP c).y]] (.ret (.int .i64 (signE (crossE (mdP a) (mdP b) (mdP c))))) := c_rorient (mdP a) (mdP b) (mdP c) (mdP_ok a) (mdP_ok b) (mdP_ok c)
    have o2 : Contract Try.prog 31 [.agg [.int .i64 (mdP a).x, .int .i64 (mdP a).y], .agg [.int .i64 (mdP b).x, .int .i64 (mdP b).y], .agg [.int .i64 (mdP c).x, .int .i64 (mdP c).y]] (.ret (.int .i64 (crossE (mdP a) (mdP b) (mdP c)))) := c_rcross (mdP a) (mdP b) (mdP c) (mdP_ok a) (mdP_ok b) (mdP_ok c)
    by_cases h0 : crossE (mdP a) (mdP b) (mdP c) = 0
    · obtain ⟨k1, k2⟩ := pl_flat u v w hw a b c p h0
      rw [levelR, if_neg (by omega), k1] at f1
      rw [levelR, if_neg (by omega), k2] at f2
      rw [prismR, if_neg (by omega), k1] at f3
      rw [h0] at o1
      have e1 : Contract Try.prog 48 [.sl [encNd (plN u v w a), encNd (plN u v w b), encNd (plN u v w c), encNd (plN u v w p)], .agg [.int .i64 0, .int .i64 1, .int .i64 2], .agg [.int .i64 (mdP p).x, .int .i64 (mdP p).y]] (.ret (.tup [.agg [.int .i64 0, .int .i64 0], .int .i64 10])) := f1
      have e2 : Contract Try.prog 48 [.sl [encNd (plN u v w a), encNd (plN u v w b), encNd (plN u v w c), encNd (plN u v w p)], .agg [.int .i64 2, .int .i64 1, .int .i64 0], .agg [.int .i64 (mdP p).x, .int .i64 (mdP p).y]] (.ret (.tup [.agg [.int .i64 0, .int .i64 0], .int .i64 10])) := f2
      have e3 : Contract Try.prog 49 [.sl [encNd (plN u v w a), encNd (plN u v w b), encNd (plN u v w c), encNd (plN u v w p)], .agg [.int .i64 0, .int .i64 1, .int .i64 2], .int .i64 0] (.ret (.tup [.int .i64 0, .int .i64 10])) := f3
      have o1' : Contract Try.prog 23 [.agg [.int .i64 (mdP a).x, .int .i64 (mdP a).y], .agg [.int .i64 (mdP b).x, .int .i64 (mdP b).y], .agg [.int .i64 (mdP c).x, .int .i64 (mdP c).y]] (.ret (.int .i64 0)) := o1
      clear f1 f2 f3 o1 o2
      repeat' first
           | (with_reducible apply go_op)
           | (with_reducible apply go_next)
           | ((with_reducible (show evOp _ _ _ _ _ _)); first
             | ((with_reducible (show evOp _ (.move _) _ _ _ _)) ; first | ((with_reducible apply go_mv_int); rfl; rfl) | ((with_reducible apply go_mv_bool); rfl; rfl) | ((with_reducible apply go_mv_os); rfl; rfl) | ((with_reducible apply go_mv_tup); rfl; rfl))
             | ((with_reducible apply go_as))
             | (((with_reducible apply go_load_own); rfl; rfl; rfl; rfl))
             | (((with_reducible apply go_fieldAddr_own); rfl; rfl; rfl))
             | ((with_reducible (show evOp _ (.indexAddr _ _ _) _ _ _ _)) ; first | ((with_reducible apply go_index_arr); rfl; rfl; rfl; rfl; omega) | ((with_reducible apply go_index_own); rfl; rfl; rfl; rfl; rfl; (exact ⟨⟨by omega, by omega⟩, Nat.le_of_ble_eq_true rfl⟩)))
             | (((with_reducible apply go_cmp); rfl; rfl; rfl; rfl))
             | ((with_reducible (show evOp _ (.call _) _ _ _ _)) ; first | ((with_reducible apply go_fn_plain); (exact purL_os rfl rfl rfl); (exact e1); rfl; (exact Nat.le_of_ble_eq_true rfl); rfl) | ((with_reducible apply go_fn_plain); (exact purL_os rfl rfl rfl); (exact e2); rfl; (exact Nat.le_of_ble_eq_true rfl); rfl) | ((with_reducible apply go_fn_plain); (exact purL_os rfl rfl rfl); (exact e3); rfl; (exact Nat.le_of_ble_eq_true rfl); rfl) | ((with_reducible apply go_fn_int); rfl; (exact o1'); rfl))
             | (((with_reducible apply go_st_agg); rfl; rfl; rfl; rfl; rfl; rfl; rfl))
             | (((with_reducible apply go_extract); rfl; rfl))
             | (((with_reducible apply go_pick); rfl; rfl; rfl))
             | ((with_reducible (show evOp _ (.build _ _) _ _ _ _)) ; first | ((with_reducible apply go_bd2_int); rfl; rfl; rfl; rfl) | ((with_reducible apply go_bd3_iii); rfl; rfl; rfl; rfl; rfl))
             | (((with_reducible apply go_alloc); rfl; rfl; rfl)))
           | ((with_reducible (show evOps _ _ _ _ _ _)); first
             | (with_reducible apply go_nil)
             | ((with_reducible apply go_run); rfl; rfl))
           | ((with_reducible (show evG _ _ _ _ _)); first
             | (with_reducible apply go_seq)
             | (with_reducible apply go_region)
             | ((with_reducible apply go_cond_t); rfl; rfl)
             | ((with_reducible apply go_cond_f); rfl; rfl)
             | (with_reducible apply go_ret)
             | (with_reducible apply go_exit))
           | (with_reducible apply go_kseq)
           | (with_reducible apply go_kseq_ret)
           | (with_reducible apply go_kblock_exit)
           | (with_reducible apply go_kseq_exit)
           | ((with_reducible apply end_bool); rfl)
      all_goals first | rfl | exact absurd ‹(decide True && (decide True && true)) = false› (by simp) | (simp; done)
    · rw [pl_level u v w hw a b c p h0] at f1
      rw [pl_level' u v w hw a b c p h0] at f2
      rw [pl_prism u v w hw a b c p h0] at f3
      have e1 : Contract Try.prog 48 [.sl [encNd (plN u v w a), encNd (plN u v w b), encNd (plN u v w c), encNd (plN u v w p)], .agg [.int .i64 0, .int .i64 1, .int .i64 2], .agg [.int .i64 (mdP p).x, .int .i64 (mdP p).y]] (.ret (.tup [.agg [.int .i64 (plN u v w p).lev, .int .i64 1], .int .i64 0])) := f1
      have e2 : Contract Try.prog 48 [.sl [encNd (plN u v w a), encNd (plN u v w b), encNd (plN u v w c), encNd (plN u v w p)], .agg [.int .i64 2, .int .i64 1, .int .i64 0], .agg [.int .i64 (mdP p).x, .int .i64 (mdP p).y]] (.ret (.tup [.agg [.int .i64 (plN u v w p).lev, .int .i64 1], .int .i64 0])) := f2
      have e3 : Contract Try.prog 49 [.sl [encNd (plN u v w a), encNd (plN u v w b), encNd (plN u v w c), encNd (plN u v w p)], .agg [.int .i64 0, .int .i64 1, .int .i64 2], .int .i64 0] (.ret (.tup [.int .i64 (absE (crossE (mdP a) (mdP b) (mdP c)) * ((plN u v w a).lev + (plN u v w b).lev + (plN u v w c).lev)), .int .i64 0])) := f3
      have y0 := crossE_bd (mdP_ok a) (mdP_ok b) (mdP_ok c)
      have o3 := c_abs (crossE (mdP a) (mdP b) (mdP c)) (by omega) (by omega)
      have y1 := pl_bd u v w hw a
      have y2 := pl_bd u v w hw b
      have y3 := pl_bd u v w hw c
      have y4 := prism_bd (m := (plN u v w a).lev + (plN u v w b).lev + (plN u v w c).lev) (abs_bd y0) (by omega)
      have hs : ¬ signE (crossE (mdP a) (mdP b) (mdP c)) = 0 := fun h => h0 (sign0.1 h)
      clear f1 f2 f3
      repeat' first
           | (with_reducible apply go_op)
           | (with_reducible apply go_next)
           | ((with_reducible (show evOp _ _ _ _ _ _)); first
             | ((with_reducible (show evOp _ (.move _) _ _ _ _)) ; first | ((with_reducible apply go_mv_int); rfl; rfl) | ((with_reducible apply go_mv_bool); rfl; rfl) | ((with_reducible apply go_mv_os); rfl; rfl) | ((with_reducible apply go_mv_tup); rfl; rfl))
             | ((with_reducible apply go_as))
             | ((with_reducible (show evOp _ (.load _ _) _ _ _ _)) ; first | ((with_reducible apply go_ld_agg); rfl; rfl; rfl; rfl) | ((with_reducible apply go_load_own); rfl; rfl; rfl; rfl))
             | (((with_reducible apply go_fieldAddr_own); rfl; rfl; rfl))
             | ((with_reducible (show evOp _ (.indexAddr _ _ _) _ _ _ _)) ; first | ((with_reducible apply go_index_arr); rfl; rfl; rfl; rfl; omega) | ((with_reducible apply go_index_own); rfl; rfl; rfl; rfl; rfl; (exact ⟨⟨by omega, by omega⟩, Nat.le_of_ble_eq_true rfl⟩)))
             | ((with_reducible (show evOp _ (.binOp _ _ _ _ _) _ _ _ _)) ; first | ((with_reducible apply go_cmp); rfl; rfl; rfl; rfl) | ((with_reducible apply go_add); rfl; rfl; rfl; omega) | ((with_reducible apply go_eql_agg); rfl; rfl; rfl; rfl) | ((with_reducible apply go_mul); rfl; rfl; rfl; omega))
             | ((with_reducible (show evOp _ (.call _) _ _ _ _)) ; first | ((with_reducible apply go_fn_plain); (exact purL_os rfl rfl rfl); (exact e1); rfl; (exact Nat.le_of_ble_eq_true rfl); rfl) | ((with_reducible apply go_fn_plain); (exact purL_os rfl rfl rfl); (exact e2); rfl; (exact Nat.le_of_ble_eq_true rfl); rfl) | ((with_reducible apply go_fn_plain); (exact purL_os rfl rfl rfl); (exact e3); rfl; (exact Nat.le_of_ble_eq_true rfl); rfl) | ((with_reducible apply go_fn_int); rfl; (exact o1); rfl) | ((with_reducible apply go_fn_int); rfl; (exact o2); rfl) | ((with_reducible apply go_fn_int); rfl; (exact o3); rfl))
             | (((with_reducible apply go_st_agg); rfl; rfl; rfl; rfl; rfl; rfl; rfl))
             | (((with_reducible apply go_extract); rfl; rfl))
             | (((with_reducible apply go_pick); rfl; rfl; rfl))
             | ((with_reducible (show evOp _ (.build _ _) _ _ _ _)) ; first | ((with_reducible apply go_bd2_int); rfl; rfl; rfl; rfl) | ((with_reducible apply go_bd3_iii); rfl; rfl; rfl; rfl; rfl))
             | (((with_reducible apply go_alloc); rfl; rfl; rfl)))
           | ((with_reducible (show evOps _ _ _ _ _ _)); first
             | (with_reducible apply go_nil)
             | ((with_reducible apply go_run); rfl; rfl)
             | ((with_reducible apply go_pass); rfl; rfl; rfl)
             | (((with_reducible apply go_guard); rfl) <;> (intro h; simp only [h, Bool.not_true, Bool.not_false]; (try with_reducible (refine ⟨rfl, ?_⟩)); try simp only [decide_eq_true_eq, decide_eq_false_iff_not, Bool.not_eq_true', Bool.not_eq_false', Bool.not_true, Bool.not_false] at h; try exact absurd trivial h))
             | ((with_reducible apply go_pre); rfl)
             | (with_reducible apply go_pre_nil)
             | ((with_reducible apply go_suf); rfl)
             | (with_reducible apply go_suf_nil))
           | ((with_reducible (show evG _ _ _ _ _)); first
             | (with_reducible apply go_seq)
             | (with_reducible apply go_region)
             | ((with_reducible apply go_cond_f); rfl; rfl)
             | (((with_reducible apply go_cond); rfl) <;> (intro h; simp only [h]; try simp only [decide_eq_true_eq, decide_eq_false_iff_not, Bool.not_eq_true', Bool.not_eq_false', Bool.not_true, Bool.not_false] at h; try exact absurd trivial h))
             | ((with_reducible apply go_order); kernel_rfl; rfl)
             | (with_reducible apply go_ret)
             | (with_reducible apply go_skipc)
             | (with_reducible apply go_exit))
           | (with_reducible apply go_kseq)
           | (with_reducible apply go_ksuf)
           | (with_reducible apply go_kseq_ret)
           | (with_reducible apply go_kblock_exit)
           | (with_reducible apply go_kseq_exit)
           | ((with_reducible apply end_bool); rfl)
      all_goals first | rfl | (exact absurd ‹signE (crossE (mdP a) (mdP b) (mdP c)) = 0› hs) | exact absurd ‹(decide True && (decide True && true)) = false› (by simp) | (simp; done)
end Go.Pv.Geo

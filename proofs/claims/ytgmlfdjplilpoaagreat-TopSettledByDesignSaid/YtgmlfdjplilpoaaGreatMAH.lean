import Derived.Test.YtgmlfdjplilpoaaGreatProg
import Derived.Test.YtgmlfdjplilpoaaGreatMAG
import Derived.KernelRfl
import Derived.Test.YtgmlfdjplilpoaaGreatMAF
import Derived.Test.YtgmlfdjplilpoaaGreatMAD
import Derived.Test.YtgmlfdjplilpoaaGreatMAC
/- Part of the proofs over YtgmlfdjplilpoaaGreat: K52, K53, K54, K55, K56, K57, K58, R12. -/
set_option linter.unusedVariables false
set_option linter.unusedSimpArgs false
set_option linter.unnecessarySimpa false
open Go Go.Proofs Go.Pv
set_option maxHeartbeats 4000000
set_option maxRecDepth 100000
set_option linter.unusedVariables false
set_option linter.unusedSimpArgs false
namespace Go.Pv.Soil
/-- The walk through settled: what its calls answer is given. -/
theorem settled_walk (c : Chan) (g : Grid) (more : Int) (D T L1 L2 L3 : List Int) (N M W u1 u2 u3 : Int) (hlen : g.levels.length ≤ 1024) (hD : D.length = g.levels.length) (hT : T.length = g.levels.length) (hL1 : L1.length = g.levels.length) (hL2 : L2.length = g.levels.length) (hL3 : L3.length = g.levels.length)
    (bN : 0 ≤ N ∧ N ≤ 5000000000000000) (bM : 0 ≤ M ∧ M ≤ 5000000000000000) (bW : 0 ≤ W ∧ W ≤ 5000000000000000) (hNM : N ≤ M)
    (y1 : Contract Tryz.prog 10 [.agg (encChan c), .agg (encGrid g)] (.ret (.tup [.agg (encG5 g ++ [.fr 1 (D.map encInt)]), .int .i64 0])))
    (y2 : Contract Tryz.prog 11 [.agg (encChan c), .agg (encGrid g)] (.ret (.tup [.agg (encG5 g ++ [.fr 1 (T.map encInt)]), .int .i64 0])))
    (y3 : Contract Tryz.prog 12 [.agg (encGrid g), .agg (encGrid (withL g D)), .int .i64 0] (.ret (.agg (encG5 g ++ [.fr 1 (L1.map encInt)]))))
    (y4 : Contract Tryz.prog 12 [.agg (encGrid g), .agg (encGrid (withL g T)), .int .i64 0] (.ret (.agg (encG5 g ++ [.fr 1 (L2.map encInt)]))))
    (y5 : Contract Tryz.prog 12 [.agg (encGrid g), .agg (encGrid (withL g T)), .int .i64 more] (.ret (.agg (encG5 g ++ [.fr 1 (L3.map encInt)]))))
    (y6 : Contract Tryz.prog 13 [.agg (encChan c), .agg (encGrid g)] (.ret (.tup [.int .i64 N, .int .i64 0])))
    (y7 : Contract Tryz.prog 13 [.agg (encChan c), .agg (encGrid (withL g L1))] (.ret (.tup [.int .i64 0, .int .i64 0])))
    (y8 : Contract Tryz.prog 14 [.agg (encChan c), .agg (encGrid (withL g L1))] (.ret (.tup [.fr 1 (([] : List Int).map encInt), .int .i64 0])))
    (y9 : Contract Tryz.prog 15 [.agg (encChan c), .agg (encGrid g), .agg (encGrid (withL g L1))] (.ret (.tup [.int .i64 N, .int .i64 0])))
    (y10 : Contract Tryz.prog 16 [.agg (encGrid g), .agg (encGrid (withL g L1))] (.ret (.tup [.agg [.int .i64 N, .int .i64 0, .int .i64 u1], .int .i64 0])))
    (y11 : Contract Tryz.prog 15 [.agg (encChan c), .agg (encGrid g), .agg (encGrid (withL g L2))] (.ret (.tup [.int .i64 M, .int .i64 0])))
    (y12 : Contract Tryz.prog 17 [.agg (encChan c), .agg (encGrid g), .agg (encGrid (withL g L2))] (.ret (.tup [.int .i64 0, .int .i64 0])))
    (y13 : Contract Tryz.prog 16 [.agg (encGrid g), .agg (encGrid (withL g L2))] (.ret (.tup [.agg [.int .i64 M, .int .i64 0, .int .i64 u2], .int .i64 0])))
    (y14 : Contract Tryz.prog 15 [.agg (encChan c), .agg (encGrid g), .agg (encGrid (withL g L3))] (.ret (.tup [.int .i64 M, .int .i64 0])))
    (y15 : Contract Tryz.prog 17 [.agg (encChan c), .agg (encGrid g), .agg (encGrid (withL g L3))] (.ret (.tup [.int .i64 W, .int .i64 0])))
    (y16 : Contract Tryz.prog 16 [.agg (encGrid g), .agg (encGrid (withL g L3))] (.ret (.tup [.agg [.int .i64 (M + W), .int .i64 0, .int .i64 u3], .int .i64 0]))) :
    Contract Tryz.prog 4 [.agg (encChan c), .agg (encGrid g), .int .i64 more] (.ret (.bool true)) := by
  refine contract_of mix Tryz.func4 rfl rfl (by rw [Tryz.ntmps4]; exact Nat.le_of_ble_eq_true rfl) ?_; rw [Tryz.results4, Tryz.ntmps4]; simp only [argsE, Nat.reduceAdd]
  refine go_seq ?_
  repeat' first
           | (with_reducible apply go_op)
           | (with_reducible apply go_next)
           | ((with_reducible (show evOp _ _ _ _ _ _)); first
             | (((with_reducible apply go_mv_bool); rfl; rfl))
             | ((with_reducible apply go_as))
             | (((with_reducible apply go_bx_agg); rfl; rfl; (exact Nat.le_of_ble_eq_true rfl); rfl; rfl)))
           | ((with_reducible (show evOps _ _ _ _ _ _)); first
             | (with_reducible apply go_nil))
           | ((with_reducible (show evG _ _ _ _ _)); first
             | (with_reducible apply go_region))
           | (with_reducible apply go_kseq)
  refine go_seq ?_
  repeat' first
           | (with_reducible apply go_op)
           | (with_reducible apply go_next)
           | ((with_reducible (show evOp _ _ _ _ _ _)); first
             | ((with_reducible (show evOp _ (.move _) _ _ _ _)) ; first | ((with_reducible apply go_mv_int); rfl; rfl) | ((with_reducible apply go_mv_tup); rfl; rfl))
             | ((with_reducible apply go_as))
             | (((with_reducible apply go_ld_agg); rfl; rfl; rfl; rfl))
             | (((with_reducible apply (go_fn_agf2 (cs := encG5 g))); rfl; (exact y1); (exact scalInt); rfl; rfl; rfl; rfl; rfl; rfl))
             | (((with_reducible apply go_st_agg); rfl; rfl; rfl; rfl; rfl; rfl; rfl))
             | (((with_reducible apply go_extract); rfl; rfl))
             | (((with_reducible apply go_alloc); rfl; rfl; rfl)))
           | ((with_reducible (show evOps _ _ _ _ _ _)); first
             | (with_reducible apply go_nil))
           | ((with_reducible (show evG _ _ _ _ _)); first
             | (with_reducible apply go_region))
           | (with_reducible apply go_kseq)
  refine go_seq ?_
  repeat' first
           | (with_reducible apply go_op)
           | (with_reducible apply go_next)
           | ((with_reducible (show evOp _ _ _ _ _ _)); first
             | ((with_reducible (show evOp _ (.move _) _ _ _ _)) ; first | ((with_reducible apply go_mv_int); rfl; rfl) | ((with_reducible apply go_mv_tup); rfl; rfl))
             | ((with_reducible apply go_as))
             | (((with_reducible apply go_ld_agg); rfl; rfl; rfl; rfl))
             | (((with_reducible apply (go_fn_agf2 (cs := encG5 g))); rfl; (exact y2); (exact scalInt); rfl; rfl; rfl; rfl; rfl; rfl))
             | (((with_reducible apply go_st_agg); rfl; rfl; rfl; rfl; rfl; rfl; rfl))
             | (((with_reducible apply go_extract); rfl; rfl))
             | (((with_reducible apply go_alloc); rfl; rfl; rfl)))
           | ((with_reducible (show evOps _ _ _ _ _ _)); first
             | (with_reducible apply go_nil))
           | ((with_reducible (show evG _ _ _ _ _)); first
             | (with_reducible apply go_region))
           | (with_reducible apply go_kseq)
  refine Or.inr ⟨⟨[(9, .op 4 0 0), (7, .op 2 0 0), (3, .op 0 0 0), (4, .op 1 0 0), (2, .int .i64 more)], [(0, ⟨5, true, [encChan c]⟩), (1, ⟨6, true, [encGrid g]⟩), (2, ⟨6, false, [encG5 g ++ [.os 3 0 D.length]]⟩), (3, ⟨1, true, D.map encInt⟩), (4, ⟨6, false, [encG5 g ++ [.os 5 0 T.length]]⟩), (5, ⟨1, true, T.map encInt⟩)], 32, 226⟩, ?_, ?_⟩
  · repeat' first
           | (with_reducible apply go_op)
           | (with_reducible apply go_next)
           | ((with_reducible (show evOp _ _ _ _ _ _)); first
             | ((with_reducible (show evOp _ (.move _) _ _ _ _)) ; first | ((with_reducible apply go_mv_int); rfl; rfl) | ((with_reducible apply go_mv_bool); rfl; rfl))
             | ((with_reducible apply go_as))
             | (((with_reducible apply go_load_own); rfl; rfl; rfl; rfl))
             | (((with_reducible apply go_fieldAddr_own); rfl; rfl; rfl))
             | (((with_reducible apply go_cmp); rfl; rfl; rfl; rfl))
             | ((with_reducible (show evOp _ (.call _) _ _ _ _)) ; first | ((with_reducible apply go_len); rfl; rfl) | ((with_reducible apply go_len_own); rfl; rfl; rfl))
             | (((with_reducible apply go_pick); rfl; rfl; rfl)))
           | ((with_reducible (show evOps _ _ _ _ _ _)); first
             | (with_reducible apply go_nil)
             | ((with_reducible apply go_run); rfl; rfl)
             | ((with_reducible apply go_pass); rfl; rfl; rfl)
             | (((with_reducible apply go_guard); rfl) <;> (intro h; simp only [h, Bool.not_true, Bool.not_false]; (try with_reducible (refine ⟨rfl, ?_⟩)); try simp only [decide_eq_true_eq, decide_eq_false_iff_not, Bool.not_eq_true', Bool.not_eq_false', Bool.not_true, Bool.not_false] at h; try exact absurd trivial h)))
           | ((with_reducible (show evG _ _ _ _ _)); first
             | (with_reducible apply go_seq)
             | (with_reducible apply go_region)
             | ((with_reducible apply go_cond_t); rfl; rfl)
             | (((with_reducible apply go_cond); rfl) <;> (intro h; simp only [h]; try simp only [decide_eq_true_eq, decide_eq_false_iff_not, Bool.not_eq_true', Bool.not_eq_false', Bool.not_true, Bool.not_false] at h; try exact absurd trivial h))
             | (with_reducible apply go_ret)
             | (with_reducible apply go_skipc))
           | (with_reducible apply go_kseq)
           | (with_reducible apply go_kseq_ret)
           | ((with_reducible apply end_bool); rfl)
    all_goals first
      | (exfalso; omega)
      | exact entails_eq (nx := 32) (k := 1) (ns := []) (ks := [9, 7, 3, 4, 2]) [(0, 0), (32, 1), (288, 2), (165, 3), (576, 4), (453, 5)] rfl (by simp) (by kernel_rfl)
      | (simp only [Nat.reduceAdd]; trace_state)
  clear y1 y2
  refine Or.inr ⟨⟨[(12, .op 8 0 0), (11, .op 6 0 0), (9, .op 4 0 0), (3, .op 0 0 0), (4, .op 1 0 0), (2, .int .i64 more)], [(0, ⟨5, true, [encChan c]⟩), (1, ⟨6, true, [encGrid g]⟩), (4, ⟨6, false, [encG5 g ++ [.os 5 0 T.length]]⟩), (5, ⟨1, true, T.map encInt⟩), (6, ⟨6, false, [encG5 g ++ [.os 7 0 L1.length]]⟩), (7, ⟨1, true, L1.map encInt⟩), (8, ⟨6, false, [encG5 g ++ [.os 9 0 L2.length]]⟩), (9, ⟨1, true, L2.map encInt⟩)], 32, 226⟩, ?_, ?_⟩
  · repeat' first
           | (with_reducible apply go_op)
           | (with_reducible apply go_next)
           | ((with_reducible (show evOp _ _ _ _ _ _)); first
             | (((with_reducible apply go_ld_agg); rfl; rfl; rfl; rfl))
             | ((with_reducible (show evOp _ (.call _) _ _ _ _)) ; first | ((with_reducible apply (go_fn_agfr (cs := encG5 g))); (exact purL_agf2 (cs := encG5 g) rfl rfl (by simp; try assumption) rfl rfl rfl); (exact y3); (exact scalInt); rfl; rfl; rfl; rfl; rfl) | ((with_reducible apply (go_fn_agfr (cs := encG5 g))); (exact purL_agf2 (cs := encG5 g) rfl rfl (by simp; try assumption) rfl rfl rfl); (exact y4); (exact scalInt); rfl; rfl; rfl; rfl; rfl))
             | (((with_reducible apply go_st_agg); rfl; rfl; rfl; rfl; rfl; rfl; rfl))
             | (((with_reducible apply go_alloc); rfl; rfl; rfl)))
           | ((with_reducible (show evOps _ _ _ _ _ _)); first
             | (with_reducible apply go_nil)
             | ((with_reducible apply go_pre); rfl)
             | ((with_reducible apply go_pre_stop); rfl)
             | ((with_reducible apply go_suf); rfl)
             | ((with_reducible apply go_suf_stop); rfl))
           | ((with_reducible (show evG _ _ _ _ _)); first
             | ((with_reducible apply go_order); kernel_rfl; rfl))
           | (with_reducible apply go_kseq)
           | (with_reducible apply go_ksuf)
    all_goals first
      | exact entails_eq (nx := 32) (k := 1) (ns := []) (ks := [12, 11, 9, 3, 4, 2]) [(0, 0), (1, 1), (4, 4), (5, 5), (224, 6), (101, 7), (256, 8), (197, 9)] rfl (by simp) (by kernel_rfl)
      | (simp only [Nat.reduceAdd]; trace_state)
  clear y3 y4
  refine Or.inr ⟨⟨[(13, .op 4 0 0), (12, .op 8 0 0), (11, .op 6 0 0), (3, .op 0 0 0), (4, .op 1 0 0)], [(0, ⟨5, true, [encChan c]⟩), (1, ⟨6, true, [encGrid g]⟩), (4, ⟨6, false, [encG5 g ++ [.os 5 0 L3.length]]⟩), (5, ⟨1, true, L3.map encInt⟩), (6, ⟨6, false, [encG5 g ++ [.os 7 0 L1.length]]⟩), (7, ⟨1, true, L1.map encInt⟩), (8, ⟨6, false, [encG5 g ++ [.os 9 0 L2.length]]⟩), (9, ⟨1, true, L2.map encInt⟩)], 32, 226⟩, ?_, ?_⟩
  · repeat' first
           | (with_reducible apply go_op)
           | (with_reducible apply go_next)
           | ((with_reducible (show evOp _ _ _ _ _ _)); first
             | (((with_reducible apply go_mv_int); rfl; rfl))
             | (((with_reducible apply go_ld_agg); rfl; rfl; rfl; rfl))
             | (((with_reducible apply (go_fn_agfr (cs := encG5 g))); (exact purL_agf2 (cs := encG5 g) rfl rfl (by simp; try assumption) rfl rfl rfl); (exact y5); (exact scalInt); rfl; rfl; rfl; rfl; rfl))
             | (((with_reducible apply go_st_agg); rfl; rfl; rfl; rfl; rfl; rfl; rfl))
             | (((with_reducible apply go_alloc); rfl; rfl; rfl)))
           | ((with_reducible (show evOps _ _ _ _ _ _)); first
             | (with_reducible apply go_nil))
           | ((with_reducible (show evG _ _ _ _ _)); first
             | (with_reducible apply go_region))
           | (with_reducible apply go_kseq)
    all_goals first
      | exact entails_eq (nx := 32) (k := 1) (ns := []) (ks := [13, 12, 11, 3, 4]) [(0, 0), (1, 1), (160, 4), (133, 5), (6, 6), (7, 7), (8, 8), (9, 9)] rfl (by simp) (by kernel_rfl)
      | (simp only [Nat.reduceAdd]; trace_state)
  clear y5
  refine go_seq ?_
  repeat' first
           | (with_reducible apply go_op)
           | (with_reducible apply go_next)
           | ((with_reducible (show evOp _ _ _ _ _ _)); first
             | ((with_reducible (show evOp _ (.move _) _ _ _ _)) ; first | ((with_reducible apply go_mv_int); rfl; rfl) | ((with_reducible apply go_mv_tup); rfl; rfl))
             | ((with_reducible apply go_as))
             | (((with_reducible apply go_ld_agg); rfl; rfl; rfl; rfl))
             | (((with_reducible apply go_fn_plain); rfl; (exact y6); rfl; (exact Nat.le_of_ble_eq_true rfl); rfl))
             | (((with_reducible apply go_extract); rfl; rfl)))
           | ((with_reducible (show evOps _ _ _ _ _ _)); first
             | (with_reducible apply go_nil))
           | ((with_reducible (show evG _ _ _ _ _)); first
             | (with_reducible apply go_region))
           | (with_reducible apply go_kseq)
  refine go_seq ?_
  repeat' first
           | (with_reducible apply go_op)
           | (with_reducible apply go_next)
           | ((with_reducible (show evOp _ _ _ _ _ _)); first
             | ((with_reducible (show evOp _ (.move _) _ _ _ _)) ; first | ((with_reducible apply go_mv_int); rfl; rfl) | ((with_reducible apply go_mv_tup); rfl; rfl))
             | ((with_reducible apply go_as))
             | (((with_reducible apply go_ld_agg); rfl; rfl; rfl; rfl))
             | (((with_reducible apply go_fn_plain); (exact purL_agf2 (cs := encG5 g) rfl rfl (by simp; try assumption) rfl rfl rfl); (exact y7); rfl; (exact Nat.le_of_ble_eq_true rfl); rfl))
             | (((with_reducible apply go_extract); rfl; rfl)))
           | ((with_reducible (show evOps _ _ _ _ _ _)); first
             | (with_reducible apply go_nil))
           | ((with_reducible (show evG _ _ _ _ _)); first
             | (with_reducible apply go_region))
           | (with_reducible apply go_kseq)
  refine go_seq ?_
  repeat' first
           | (with_reducible apply go_op)
           | (with_reducible apply go_next)
           | ((with_reducible (show evOp _ _ _ _ _ _)); first
             | ((with_reducible (show evOp _ (.move _) _ _ _ _)) ; first | ((with_reducible apply go_mv_int); rfl; rfl) | ((with_reducible apply go_mv_os); rfl; rfl) | ((with_reducible apply go_mv_tup); rfl; rfl))
             | ((with_reducible apply go_as))
             | (((with_reducible apply go_ld_agg); rfl; rfl; rfl; rfl))
             | (((with_reducible apply go_fn_fr2); (exact purL_agf2 (cs := encG5 g) rfl rfl (by simp; try assumption) rfl rfl rfl); (exact y8); (exact scalInt); rfl; rfl))
             | (((with_reducible apply go_extract); rfl; rfl)))
           | ((with_reducible (show evOps _ _ _ _ _ _)); first
             | (with_reducible apply go_nil))
           | ((with_reducible (show evG _ _ _ _ _)); first
             | (with_reducible apply go_region))
           | (with_reducible apply go_kseq)
  refine go_seq ?_
  repeat' first
           | (with_reducible apply go_op)
           | (with_reducible apply go_next)
           | ((with_reducible (show evOp _ _ _ _ _ _)); first
             | ((with_reducible (show evOp _ (.move _) _ _ _ _)) ; first | ((with_reducible apply go_mv_int); rfl; rfl) | ((with_reducible apply go_mv_tup); rfl; rfl))
             | ((with_reducible apply go_as))
             | (((with_reducible apply go_ld_agg); rfl; rfl; rfl; rfl))
             | (((with_reducible apply go_fn_plain); (exact purL_agf3 (cs := encG5 g) rfl rfl rfl (by simp; try assumption) rfl rfl rfl); (exact y9); rfl; (exact Nat.le_of_ble_eq_true rfl); rfl))
             | (((with_reducible apply go_extract); rfl; rfl)))
           | ((with_reducible (show evOps _ _ _ _ _ _)); first
             | (with_reducible apply go_nil))
           | ((with_reducible (show evG _ _ _ _ _)); first
             | (with_reducible apply go_region))
           | (with_reducible apply go_kseq)
  refine go_seq ?_
  repeat' first
           | (with_reducible apply go_op)
           | (with_reducible apply go_next)
           | ((with_reducible (show evOp _ _ _ _ _ _)); first
             | ((with_reducible (show evOp _ (.move _) _ _ _ _)) ; first | ((with_reducible apply go_mv_int); rfl; rfl) | ((with_reducible apply go_mv_tup); rfl; rfl))
             | ((with_reducible apply go_as))
             | (((with_reducible apply go_ld_agg); rfl; rfl; rfl; rfl))
             | (((with_reducible apply go_fn_plain); (exact purL_agf2 (cs := encG5 g) rfl rfl (by simp; try assumption) rfl rfl rfl); (exact y10); rfl; (exact Nat.le_of_ble_eq_true rfl); rfl))
             | (((with_reducible apply go_st_agg); rfl; rfl; rfl; rfl; rfl; rfl; rfl))
             | (((with_reducible apply go_extract); rfl; rfl))
             | (((with_reducible apply go_alloc); rfl; rfl; rfl)))
           | ((with_reducible (show evOps _ _ _ _ _ _)); first
             | (with_reducible apply go_nil))
           | ((with_reducible (show evG _ _ _ _ _)); first
             | (with_reducible apply go_region))
           | (with_reducible apply go_kseq)
  refine Or.inr ⟨⟨[(22, .op 10 0 0), (14, .int .i64 N), (13, .op 4 0 0), (12, .op 8 0 0), (3, .op 0 0 0), (4, .op 1 0 0)], [(0, ⟨5, true, [encChan c]⟩), (1, ⟨6, true, [encGrid g]⟩), (10, ⟨3, true, [[.int .i64 N, .int .i64 0, .int .i64 u1]]⟩), (4, ⟨6, false, [encG5 g ++ [.os 5 0 L3.length]]⟩), (5, ⟨1, true, L3.map encInt⟩), (8, ⟨6, false, [encG5 g ++ [.os 9 0 L2.length]]⟩), (9, ⟨1, true, L2.map encInt⟩)], 32, 226⟩, ?_, ?_⟩
  · repeat' first
           | (with_reducible apply go_op)
           | (with_reducible apply go_next)
           | ((with_reducible (show evOp _ _ _ _ _ _)); first
             | ((with_reducible (show evOp _ (.move _) _ _ _ _)) ; first | ((with_reducible apply go_mv_int); rfl; rfl) | ((with_reducible apply go_mv_bool); rfl; rfl) | ((with_reducible apply go_mv_os); rfl; rfl))
             | (((with_reducible apply go_load_own); rfl; rfl; rfl; rfl))
             | (((with_reducible apply go_fieldAddr_own); rfl; rfl; rfl))
             | ((with_reducible (show evOp _ (.binOp _ _ _ _ _) _ _ _ _)) ; first | ((with_reducible apply go_cmp); rfl; rfl; rfl; rfl) | ((with_reducible apply go_add); rfl; rfl; rfl; omega))
             | (((with_reducible apply go_len_own); rfl; rfl; rfl))
             | (((with_reducible apply go_pick); rfl; rfl; rfl)))
           | ((with_reducible (show evOps _ _ _ _ _ _)); first
             | (with_reducible apply go_nil)
             | ((with_reducible apply go_run); rfl; rfl)
             | (((with_reducible apply go_guard); rfl) <;> (intro h; simp only [h, Bool.not_true, Bool.not_false]; (try with_reducible (refine ⟨rfl, ?_⟩)); try simp only [decide_eq_true_eq, decide_eq_false_iff_not, Bool.not_eq_true', Bool.not_eq_false', Bool.not_true, Bool.not_false] at h; try exact absurd trivial h)))
           | ((with_reducible (show evG _ _ _ _ _)); first
             | (with_reducible apply go_seq)
             | (with_reducible apply go_region)
             | ((with_reducible apply go_cond_f); rfl; rfl)
             | (with_reducible apply go_skipc))
           | (with_reducible apply go_kseq)
    all_goals try (exfalso; first | omega | (simp at *; done))
    exact entails_eq (nx := 32) (k := 1) (ns := []) (ks := [22, 14, 13, 12, 3, 4]) [(0, 0), (1, 1), (1280, 10), (4, 4), (5, 5), (8, 8), (9, 9)] rfl (by simp) (by kernel_rfl)
  clear y6 y7 y8 y9 y10
  refine go_seq ?_
  repeat' first
           | (with_reducible apply go_op)
           | (with_reducible apply go_next)
           | ((with_reducible (show evOp _ _ _ _ _ _)); first
             | ((with_reducible (show evOp _ (.move _) _ _ _ _)) ; first | ((with_reducible apply go_mv_int); rfl; rfl) | ((with_reducible apply go_mv_tup); rfl; rfl))
             | ((with_reducible apply go_as))
             | (((with_reducible apply go_ld_agg); rfl; rfl; rfl; rfl))
             | (((with_reducible apply go_fn_plain); (exact purL_agf3 (cs := encG5 g) rfl rfl rfl (by simp; try assumption) rfl rfl rfl); (exact y11); rfl; (exact Nat.le_of_ble_eq_true rfl); rfl))
             | (((with_reducible apply go_extract); rfl; rfl)))
           | ((with_reducible (show evOps _ _ _ _ _ _)); first
             | (with_reducible apply go_nil))
           | ((with_reducible (show evG _ _ _ _ _)); first
             | (with_reducible apply go_region))
           | (with_reducible apply go_kseq)
  refine go_seq ?_
  repeat' first
           | (with_reducible apply go_op)
           | (with_reducible apply go_next)
           | ((with_reducible (show evOp _ _ _ _ _ _)); first
             | ((with_reducible (show evOp _ (.move _) _ _ _ _)) ; first | ((with_reducible apply go_mv_int); rfl; rfl) | ((with_reducible apply go_mv_tup); rfl; rfl))
             | ((with_reducible apply go_as))
             | (((with_reducible apply go_ld_agg); rfl; rfl; rfl; rfl))
             | (((with_reducible apply go_fn_plain); (exact purL_agf3 (cs := encG5 g) rfl rfl rfl (by simp; try assumption) rfl rfl rfl); (exact y12); rfl; (exact Nat.le_of_ble_eq_true rfl); rfl))
             | (((with_reducible apply go_extract); rfl; rfl)))
           | ((with_reducible (show evOps _ _ _ _ _ _)); first
             | (with_reducible apply go_nil))
           | ((with_reducible (show evG _ _ _ _ _)); first
             | (with_reducible apply go_region))
           | (with_reducible apply go_kseq)
  refine go_seq ?_
  repeat' first
           | (with_reducible apply go_op)
           | (with_reducible apply go_next)
           | ((with_reducible (show evOp _ _ _ _ _ _)); first
             | ((with_reducible (show evOp _ (.move _) _ _ _ _)) ; first | ((with_reducible apply go_mv_int); rfl; rfl) | ((with_reducible apply go_mv_tup); rfl; rfl))
             | ((with_reducible apply go_as))
             | (((with_reducible apply go_ld_agg); rfl; rfl; rfl; rfl))
             | (((with_reducible apply go_fn_plain); (exact purL_agf2 (cs := encG5 g) rfl rfl (by simp; try assumption) rfl rfl rfl); (exact y13); rfl; (exact Nat.le_of_ble_eq_true rfl); rfl))
             | (((with_reducible apply go_st_agg); rfl; rfl; rfl; rfl; rfl; rfl; rfl))
             | (((with_reducible apply go_extract); rfl; rfl)))
           | ((with_reducible (show evOps _ _ _ _ _ _)); first
             | (with_reducible apply go_nil))
           | ((with_reducible (show evG _ _ _ _ _)); first
             | (with_reducible apply go_region))
           | (with_reducible apply go_kseq)
  refine Or.inr ⟨⟨[(24, .int .i64 M), (22, .op 10 0 0), (13, .op 4 0 0), (3, .op 0 0 0), (4, .op 1 0 0)], [(0, ⟨5, true, [encChan c]⟩), (1, ⟨6, true, [encGrid g]⟩), (10, ⟨3, true, [[.int .i64 M, .int .i64 0, .int .i64 u2]]⟩), (4, ⟨6, false, [encG5 g ++ [.os 5 0 L3.length]]⟩), (5, ⟨1, true, L3.map encInt⟩)], 32, 226⟩, ?_, ?_⟩
  · repeat' first
           | (with_reducible apply go_op)
           | (with_reducible apply go_next)
           | ((with_reducible (show evOp _ _ _ _ _ _)); first
             | ((with_reducible (show evOp _ (.move _) _ _ _ _)) ; first | ((with_reducible apply go_mv_int); rfl; rfl) | ((with_reducible apply go_mv_bool); rfl; rfl))
             | ((with_reducible apply go_as))
             | (((with_reducible apply go_load_own); rfl; rfl; rfl; rfl))
             | (((with_reducible apply go_fieldAddr_own); rfl; rfl; rfl))
             | ((with_reducible (show evOp _ (.binOp _ _ _ _ _) _ _ _ _)) ; first | ((with_reducible apply go_cmp); rfl; rfl; rfl; rfl) | ((with_reducible apply go_add); rfl; rfl; rfl; omega))
             | (((with_reducible apply go_pick); rfl; rfl; rfl)))
           | ((with_reducible (show evOps _ _ _ _ _ _)); first
             | (with_reducible apply go_nil)
             | ((with_reducible apply go_run); rfl; rfl)
             | (((with_reducible apply go_guard); rfl) <;> (intro h; simp only [h, Bool.not_true, Bool.not_false]; (try with_reducible (refine ⟨rfl, ?_⟩)); try simp only [decide_eq_true_eq, decide_eq_false_iff_not, Bool.not_eq_true', Bool.not_eq_false', Bool.not_true, Bool.not_false] at h; try exact absurd trivial h)))
           | ((with_reducible (show evG _ _ _ _ _)); first
             | (with_reducible apply go_seq)
             | (with_reducible apply go_region)
             | (((with_reducible apply go_cond); rfl) <;> (intro h; simp only [h]; try simp only [decide_eq_true_eq, decide_eq_false_iff_not, Bool.not_eq_true', Bool.not_eq_false', Bool.not_true, Bool.not_false] at h; try exact absurd trivial h))
             | (with_reducible apply go_ret)
             | (with_reducible apply go_skipc))
           | (with_reducible apply go_kseq)
           | (with_reducible apply go_kseq_ret)
           | ((with_reducible apply end_bool); rfl)
    all_goals try (exfalso; first | omega | (simp at *; done))
    exact entails_eq (nx := 32) (k := 1) (ns := []) (ks := [24, 22, 13, 3, 4]) [(0, 0), (1, 1), (10, 10), (4, 4), (5, 5)] rfl (by simp) (by kernel_rfl)
  clear y11 y12 y13
  refine go_seq ?_
  repeat' first
           | (with_reducible apply go_op)
           | (with_reducible apply go_next)
           | ((with_reducible (show evOp _ _ _ _ _ _)); first
             | ((with_reducible (show evOp _ (.move _) _ _ _ _)) ; first | ((with_reducible apply go_mv_int); rfl; rfl) | ((with_reducible apply go_mv_tup); rfl; rfl))
             | ((with_reducible apply go_as))
             | (((with_reducible apply go_ld_agg); rfl; rfl; rfl; rfl))
             | (((with_reducible apply go_fn_plain); (exact purL_agf3 (cs := encG5 g) rfl rfl rfl (by simp; try assumption) rfl rfl rfl); (exact y14); rfl; (exact Nat.le_of_ble_eq_true rfl); rfl))
             | (((with_reducible apply go_extract); rfl; rfl)))
           | ((with_reducible (show evOps _ _ _ _ _ _)); first
             | (with_reducible apply go_nil))
           | ((with_reducible (show evG _ _ _ _ _)); first
             | (with_reducible apply go_region))
           | (with_reducible apply go_kseq)
  refine go_seq ?_
  repeat' first
           | (with_reducible apply go_op)
           | (with_reducible apply go_next)
           | ((with_reducible (show evOp _ _ _ _ _ _)); first
             | ((with_reducible (show evOp _ (.move _) _ _ _ _)) ; first | ((with_reducible apply go_mv_int); rfl; rfl) | ((with_reducible apply go_mv_tup); rfl; rfl))
             | ((with_reducible apply go_as))
             | (((with_reducible apply go_ld_agg); rfl; rfl; rfl; rfl))
             | (((with_reducible apply go_fn_plain); (exact purL_agf3 (cs := encG5 g) rfl rfl rfl (by simp; try assumption) rfl rfl rfl); (exact y15); rfl; (exact Nat.le_of_ble_eq_true rfl); rfl))
             | (((with_reducible apply go_extract); rfl; rfl)))
           | ((with_reducible (show evOps _ _ _ _ _ _)); first
             | (with_reducible apply go_nil))
           | ((with_reducible (show evG _ _ _ _ _)); first
             | (with_reducible apply go_region))
           | (with_reducible apply go_kseq)
  refine go_seq ?_
  repeat' first
           | (with_reducible apply go_op)
           | (with_reducible apply go_next)
           | ((with_reducible (show evOp _ _ _ _ _ _)); first
             | ((with_reducible (show evOp _ (.move _) _ _ _ _)) ; first | ((with_reducible apply go_mv_int); rfl; rfl) | ((with_reducible apply go_mv_tup); rfl; rfl))
             | ((with_reducible apply go_as))
             | (((with_reducible apply go_ld_agg); rfl; rfl; rfl; rfl))
             | (((with_reducible apply go_fn_plain); (exact purL_agf2 (cs := encG5 g) rfl rfl (by simp; try assumption) rfl rfl rfl); (exact y16); rfl; (exact Nat.le_of_ble_eq_true rfl); rfl))
             | (((with_reducible apply go_st_agg); rfl; rfl; rfl; rfl; rfl; rfl; rfl))
             | (((with_reducible apply go_extract); rfl; rfl)))
           | ((with_reducible (show evOps _ _ _ _ _ _)); first
             | (with_reducible apply go_nil))
           | ((with_reducible (show evG _ _ _ _ _)); first
             | (with_reducible apply go_region))
           | (with_reducible apply go_kseq)
  repeat' first
           | (with_reducible apply go_op)
           | (with_reducible apply go_next)
           | ((with_reducible (show evOp _ _ _ _ _ _)); first
             | ((with_reducible (show evOp _ (.move _) _ _ _ _)) ; first | ((with_reducible apply go_mv_int); rfl; rfl) | ((with_reducible apply go_mv_bool); rfl; rfl))
             | ((with_reducible apply go_as))
             | (((with_reducible apply go_load_own); rfl; rfl; rfl; rfl))
             | (((with_reducible apply go_fieldAddr_own); rfl; rfl; rfl))
             | ((with_reducible (show evOp _ (.binOp _ _ _ _ _) _ _ _ _)) ; first | ((with_reducible apply go_cmp); rfl; rfl; rfl; rfl) | ((with_reducible apply go_add); rfl; rfl; rfl; omega) | ((with_reducible apply go_sub); rfl; rfl; rfl; omega))
             | (((with_reducible apply go_pick); rfl; rfl; rfl)))
           | ((with_reducible (show evOps _ _ _ _ _ _)); first
             | (with_reducible apply go_nil)
             | ((with_reducible apply go_run); rfl; rfl)
             | (((with_reducible apply go_guard); rfl) <;> (intro h; simp only [h, Bool.not_true, Bool.not_false]; (try with_reducible (refine ⟨rfl, ?_⟩)); try simp only [decide_eq_true_eq, decide_eq_false_iff_not, Bool.not_eq_true', Bool.not_eq_false', Bool.not_true, Bool.not_false] at h; try exact absurd trivial h)))
           | ((with_reducible (show evG _ _ _ _ _)); first
             | (with_reducible apply go_seq)
             | (with_reducible apply go_region)
             | (with_reducible apply go_ret))
           | (with_reducible apply go_kseq)
           | ((with_reducible apply end_bool); rfl)
  all_goals first
    | (exfalso; omega)
    | exact decide_eq_true (by omega)
    | trace_state
end Go.Pv.Soil

open Go Go.Proofs Go.Pv
set_option maxHeartbeats 4000000
set_option maxRecDepth 100000
set_option linter.unusedVariables false
set_option linter.unusedSimpArgs false
namespace Go.Pv.Soil
theorem SetUp.dbd {c : Chan} {g : Grid} {more : Int} (s : SetUp c g more) {off : Int} (ho : 0 ≤ off ∧ off ≤ 1000) : ∀ k, k < g.levels.length → -30000 ≤ lv (withL g (dgL c g off g.levels.length)).levels k ∧ lv (withL g (dgL c g off g.levels.length)).levels k ≤ 30000 := by
  intro k hk
  show -30000 ≤ lv (dgL c g off g.levels.length) k ∧ lv (dgL c g off g.levels.length) k ≤ 30000
  rw [dgL_lv hk]
  split
  · rename_i hB
    have := s.vb hk hB
    omega
  · omega
theorem h_settled (c : Chan) (g : Grid) (more : Int) (s : SetUp c g more) (h40 : g.levels.length ≤ 40) : Contract Tryz.prog 4 [.agg (encChan c), .agg (encGrid g), .int .i64 more] (.ret (.bool true)) := by
  have hov := s.hc.ov
  have hm := s.more
  have hc := s.hc
  have h0 := s.h0
  have g1 := s.grid (off := 0) (m := 0) (by omega) (by omega)
  have g2 := s.grid (off := c.over) (m := 0) hov (by omega)
  have g3 := s.grid (off := c.over) (m := more) hov hm
  have t := s.tot
  have y6 := h_Needed c hc g h0
  have y7 := h_Needed c hc _ g1
  have y9 := h_Paid c hc g _ h0 g1 (bed_alike ..)
  have y10 := c68 g _ h0 g1 (bed_alike ..)
  have y11 := h_Paid c hc g _ h0 g2 (bed_alike ..)
  have y12 := h_Overcut c hc g _ h0 g2 (bed_alike ..)
  have y13 := c68 g _ h0 g2 (bed_alike ..)
  have y14 := h_Paid c hc g _ h0 g3 (bed_alike ..)
  have y15 := h_Overcut c hc g _ h0 g3 (bed_alike ..)
  have y16 := c68 g _ h0 g3 (bed_alike ..)
  rw [need_eq] at y6
  rw [s.left] at y7
  rw [s.paid1] at y9
  rw [s.cut1, s.fill (by omega) (by omega)] at y10
  rw [s.paid2] at y11
  rw [s.over2] at y12
  rw [s.cut2, s.fill hov (by omega)] at y13
  rw [s.paid3] at y14
  rw [s.over3] at y15
  rw [s.cut3, s.fill hov hm] at y16
  exact settled_walk c g more (dgL c g 0 g.levels.length) (dgL c g c.over g.levels.length) (bedL c g 0 0) (bedL c g c.over 0) (bedL c g c.over more) (needT c g) (mostT c g) (wastT c g more) _ _ _ (by omega) (dgL_len ..) (dgL_len ..) (bedL_len ..) (bedL_len ..) (bedL_len ..) t.1 t.2.1 t.2.2 s.le
    (h_DesignGrid c hc g h0 h40) (h_ToleranceGrid c hc g h0 h40)
    (h_lowered g _ 0 (by omega) (dgL_len ..) (by omega) (s.dbd (by omega))) (h_lowered g _ 0 (by omega) (dgL_len ..) (by omega) (s.dbd hov)) (h_lowered g _ more (by omega) (dgL_len ..) hm (s.dbd hov))
    y6 y7 (h_Open c hc _ g1 s.open') y9 y10 y11 y12 y13 y14 y15 y16
end Go.Pv.Soil

open Go Go.Proofs Go.Pv
set_option maxHeartbeats 4000000
set_option maxRecDepth 100000
set_option linter.unusedVariables false
set_option linter.unusedSimpArgs false
namespace Go.Pv.Soil
theorem r_place (a : Axp) : Contract Tryz.prog 38 [.agg (encAxp a)] (.ret (.agg (Geo.encPt (axPt a)))) := by
  refine contract_of mix Tryz.func38 rfl rfl (by rw [Tryz.ntmps38]; exact Nat.le_of_ble_eq_true rfl) ?_; rw [Tryz.results38, Tryz.ntmps38]; simp only [argsE, Nat.reduceAdd]
  repeat' first
           | (with_reducible apply go_op)
           | (with_reducible apply go_next)
           | ((with_reducible (show evOp _ _ _ _ _ _)); first
             | (((with_reducible apply go_load_own); rfl; rfl; rfl; rfl))
             | (((with_reducible apply go_fieldAddr_own); rfl; rfl; rfl))
             | (((with_reducible apply go_st_agg); rfl; rfl; rfl; rfl; rfl; rfl; rfl))
             | (((with_reducible apply go_bd2_int); rfl; rfl; rfl; rfl))
             | (((with_reducible apply go_bx_agg); rfl; rfl; (exact Nat.le_of_ble_eq_true rfl); rfl; rfl))
             | (((with_reducible apply go_alloc); rfl; rfl; rfl)))
           | ((with_reducible (show evOps _ _ _ _ _ _)); first
             | (with_reducible apply go_nil))
           | ((with_reducible (show evG _ _ _ _ _)); first
             | (with_reducible apply go_seq)
             | (with_reducible apply go_region)
             | (with_reducible apply go_ret))
           | (with_reducible apply go_kseq)
           | ((with_reducible apply end_agg); rfl; rfl)
  kernel_rfl
theorem r_good (p : Geo.Pt) : Contract Tryz.prog 37 [.agg (Geo.encPt p)] (.ret (.bool (decide ((-1000000 ≤ p.x ∧ p.x ≤ 1000000) ∧ (-1000000 ≤ p.y ∧ p.y ≤ 1000000))))) := by
  refine contract_of mix Tryz.func37 rfl rfl (by rw [Tryz.ntmps37]; exact Nat.le_of_ble_eq_true rfl) ?_; rw [Tryz.results37, Tryz.ntmps37]; simp only [argsE, Nat.reduceAdd]
  repeat' first
           | (with_reducible apply go_op)
           | (with_reducible apply go_next)
           | ((with_reducible (show evOp _ _ _ _ _ _)); first
             | (((with_reducible apply go_mv_bool); rfl; rfl))
             | ((with_reducible apply go_as))
             | (((with_reducible apply go_load_own); rfl; rfl; rfl; rfl))
             | (((with_reducible apply go_fieldAddr_own); rfl; rfl; rfl))
             | (((with_reducible apply go_fn_bool); rfl; (exact c38 _ _ _); rfl))
             | (((with_reducible apply go_pick); rfl; rfl; rfl))
             | (((with_reducible apply go_bx_agg); rfl; rfl; (exact Nat.le_of_ble_eq_true rfl); rfl; rfl)))
           | ((with_reducible (show evOps _ _ _ _ _ _)); first
             | (with_reducible apply go_nil)
             | ((with_reducible apply go_run); rfl; rfl)
             | ((with_reducible apply go_pass); rfl; rfl; rfl)
             | (((with_reducible apply go_guard); rfl) <;> (intro h; simp only [h, Bool.not_true, Bool.not_false]; (try with_reducible (refine ⟨rfl, ?_⟩)); try simp only [decide_eq_true_eq, decide_eq_false_iff_not, Bool.not_eq_true', Bool.not_eq_false', Bool.not_true, Bool.not_false] at h; try exact absurd trivial h)))
           | ((with_reducible (show evG _ _ _ _ _)); first
             | (with_reducible apply go_seq)
             | (with_reducible apply go_region)
             | (with_reducible apply go_ret))
           | (with_reducible apply go_kseq)
           | ((with_reducible apply end_bool); rfl)
  all_goals first | (rw [Bool.eq_iff_iff]; simp; omega) | (symm; rw [decide_eq_false_iff_not]; omega) | (symm; rw [decide_eq_true_iff]; omega) | trace_state
def regErrE (r : Reg) (bef : List Reg) : Int := if nameOK r.name = false then 4 else if (bef.any fun q => decide (q.name = r.name)) = true then 5 else if ¬ (0 ≤ r.kind ∧ r.kind ≤ 3) then 2 else Geo.polyE r.corners
theorem r_RegionErr (r : Reg) (bef : List Reg) (hb : bef.length < 1000000000000) : Contract Tryz.prog 39 [.agg (encReg r), .sl (bef.map encReg)] (.ret (.int .i64 (regErrE r bef))) := by
  have hn := c83 r.name
  have h3 := Geo.c_rCheckPolygon r.corners
  obtain ⟨nm, kind, cor⟩ := r
  simp only at hn h3
  unfold regErrE
  simp only
  refine contract_of mix Tryz.func39 rfl rfl (by rw [Tryz.ntmps39]; exact Nat.le_of_ble_eq_true rfl) ?_; rw [Tryz.results39, Tryz.ntmps39]; simp only [argsE, Nat.reduceAdd]
  repeat' first
           | (with_reducible apply go_op)
           | (with_reducible apply go_next)
           | ((with_reducible (show evOp _ _ _ _ _ _)); first
             | (((with_reducible apply go_mv_int); rfl; rfl))
             | ((with_reducible apply go_as))
             | (((with_reducible apply go_load_own); rfl; rfl; rfl; rfl))
             | (((with_reducible apply go_fieldAddr_own); rfl; rfl; rfl))
             | (((with_reducible apply go_fn_bool); rfl; (exact hn); rfl))
             | (((with_reducible apply go_not); rfl; rfl))
             | (((with_reducible apply go_bx_agg); rfl; rfl; (exact Nat.le_of_ble_eq_true rfl); rfl; rfl)))
           | ((with_reducible (show evOps _ _ _ _ _ _)); first
             | (with_reducible apply go_nil))
           | ((with_reducible (show evG _ _ _ _ _)); first
             | (with_reducible apply go_seq)
             | (with_reducible apply go_region)
             | (((with_reducible apply go_cond); rfl) <;> (intro h; simp only [h]; try simp only [decide_eq_true_eq, decide_eq_false_iff_not, Bool.not_eq_true', Bool.not_eq_false', Bool.not_true, Bool.not_false] at h; try exact absurd trivial h))
             | (with_reducible apply go_ret)
             | (with_reducible apply go_skipc)
             | (with_reducible apply go_block))
           | (with_reducible apply go_kseq)
           | (with_reducible apply go_kseq_ret)
           | ((with_reducible apply end_int); rfl)
  · rw [if_pos (by assumption)]
  rw [if_neg (by simp [*])]
  refine go_count bef.length (fun i => ⟨[(5, .int .i64 i), (1, .sl (bef.map encReg)), (2, .op 0 0 0)], [(0, ⟨3, true, [[.str nm, .int .i64 kind, .sl (cor.map Geo.encPt)]]⟩)], 32, 31⟩) (fun i => ∀ j (hj : j < i) (hj' : j < bef.length), decide (bef[j].name = nm) = false) (entails_eq (nx := 32) (k := 0) (ns := []) (ks := [5, 1, 2]) [(0, 0)] rfl (by simp) (by kernel_rfl)) (by omega) ?_
  intro i hi hC
  by_cases hlt : i < bef.length
  · repeat' first
           | (with_reducible apply go_op)
           | (with_reducible apply go_next)
           | ((with_reducible (show evOp _ _ _ _ _ _)); first
             | ((with_reducible (show evOp _ (.move _) _ _ _ _)) ; first | ((with_reducible apply go_mv_int); rfl; rfl) | ((with_reducible apply go_mv_sl); rfl; rfl))
             | ((with_reducible apply go_as))
             | ((with_reducible (show evOp _ (.load _ _) _ _ _ _)) ; first | ((with_reducible apply go_load); rfl; rfl; rfl) | ((with_reducible apply go_load_own); rfl; rfl; rfl; rfl))
             | ((with_reducible (show evOp _ (.fieldAddr _ _ _) _ _ _ _)) ; first | ((with_reducible apply go_fieldAddr); rfl; rfl) | ((with_reducible apply go_fieldAddr_own); rfl; rfl; rfl))
             | (((with_reducible apply go_index_nat); rfl; rfl; (with_reducible rfl); (intro; rfl); rfl; omega; (intro hlt)))
             | ((with_reducible (show evOp _ (.binOp _ _ _ _ _) _ _ _ _)) ; first | ((with_reducible apply go_cmp); rfl; rfl; rfl; rfl) | ((with_reducible apply go_add); rfl; rfl; rfl; omega) | ((with_reducible apply go_bin); rfl; rfl))
             | (((with_reducible apply go_len); rfl; rfl)))
           | ((with_reducible (show evOps _ _ _ _ _ _)); first
             | (with_reducible apply go_nil)
             | ((with_reducible apply go_pre); rfl)
             | (with_reducible apply go_pre_nil)
             | ((with_reducible apply go_suf); rfl)
             | (with_reducible apply go_suf_nil))
           | ((with_reducible (show evG _ _ _ _ _)); first
             | (with_reducible apply go_seq)
             | (with_reducible apply go_region)
             | (((with_reducible apply go_cond); rfl) <;> (intro h; simp only [h]; try simp only [decide_eq_true_eq, decide_eq_false_iff_not, Bool.not_eq_true', Bool.not_eq_false', Bool.not_true, Bool.not_false] at h; try exact absurd trivial h))
             | ((with_reducible apply go_order); kernel_rfl; rfl)
             | (with_reducible apply go_ret)
             | (with_reducible apply go_skipc)
             | (with_reducible apply go_block)
             | (with_reducible apply go_exit))
           | (with_reducible apply go_kseq)
           | (with_reducible apply go_ksuf)
           | (with_reducible apply go_kseq_ret)
           | (with_reducible apply go_kblock)
           | (with_reducible apply go_kblock_ret)
           | (with_reducible apply go_kblock_exit)
           | (with_reducible apply go_kseq_exit)
           | ((with_reducible apply end_int); rfl)
    all_goals first
      | exact absurd hlt (by omega)
      | (rw [if_pos (List.any_eq_true.2 ⟨bef[i], List.getElem_mem _, by simp; assumption⟩)])
      | (refine ⟨by omega, fun j hj hj' => ?_, entails_eq (nx := 32) (k := 0) (ns := []) (ks := [5, 1, 2]) [(0, 0)] rfl (by simp) (by kernel_rfl)⟩
         rcases Nat.lt_succ_iff_lt_or_eq.1 hj with h' | rfl
         · exact hC j h' hj'
         · simp; assumption)
      | trace_state
  · have e : i = bef.length := by omega
    subst e
    rw [if_neg (by
      rw [List.any_eq_true]
      rintro ⟨x, hx, hq⟩
      obtain ⟨j, hj, rfl⟩ := List.mem_iff_getElem.1 hx
      rw [hC j hj hj] at hq
      cases hq)]
    repeat' first
           | (with_reducible apply go_op)
           | (with_reducible apply go_next)
           | ((with_reducible (show evOp _ _ _ _ _ _)); first
             | ((with_reducible (show evOp _ (.move _) _ _ _ _)) ; first | ((with_reducible apply go_mv_int); rfl; rfl) | ((with_reducible apply go_mv_sl); rfl; rfl))
             | ((with_reducible apply go_as))
             | ((with_reducible (show evOp _ (.load _ _) _ _ _ _)) ; first | ((with_reducible apply go_load); rfl; rfl; rfl) | ((with_reducible apply go_load_own); rfl; rfl; rfl; rfl))
             | ((with_reducible (show evOp _ (.fieldAddr _ _ _) _ _ _ _)) ; first | ((with_reducible apply go_fieldAddr); rfl; rfl) | ((with_reducible apply go_fieldAddr_own); rfl; rfl; rfl))
             | (((with_reducible apply go_index_nat); rfl; rfl; (with_reducible rfl); (intro; rfl); rfl; omega; (intro hlt)))
             | ((with_reducible (show evOp _ (.binOp _ _ _ _ _) _ _ _ _)) ; first | ((with_reducible apply go_cmp); rfl; rfl; rfl; rfl) | ((with_reducible apply go_add); rfl; rfl; rfl; omega) | ((with_reducible apply go_bin); rfl; rfl))
             | ((with_reducible (show evOp _ (.call _) _ _ _ _)) ; first | ((with_reducible apply go_len); rfl; rfl) | ((with_reducible apply go_fn_bool); rfl; (exact c38 _ _ _); rfl) | ((with_reducible apply go_fn_int); rfl; (exact h3); rfl))
             | (((with_reducible apply go_not); rfl; rfl)))
           | ((with_reducible (show evOps _ _ _ _ _ _)); first
             | (with_reducible apply go_nil)
             | ((with_reducible apply go_pre); rfl)
             | (with_reducible apply go_pre_nil)
             | ((with_reducible apply go_suf); rfl)
             | (with_reducible apply go_suf_nil))
           | ((with_reducible (show evG _ _ _ _ _)); first
             | (with_reducible apply go_seq)
             | (with_reducible apply go_region)
             | (((with_reducible apply go_cond); rfl) <;> (intro h; simp only [h]; try simp only [decide_eq_true_eq, decide_eq_false_iff_not, Bool.not_eq_true', Bool.not_eq_false', Bool.not_true, Bool.not_false] at h; try exact absurd trivial h))
             | ((with_reducible apply go_order); kernel_rfl; rfl)
             | (with_reducible apply go_ret)
             | (with_reducible apply go_skipc)
             | (with_reducible apply go_block)
             | (with_reducible apply go_exit))
           | (with_reducible apply go_kseq)
           | (with_reducible apply go_ksuf)
           | (with_reducible apply go_kseq_ret)
           | (with_reducible apply go_kblock)
           | (with_reducible apply go_kblock_ret)
           | (with_reducible apply go_kblock_exit)
           | (with_reducible apply go_kseq_exit)
           | ((with_reducible apply end_int); rfl)
    all_goals first
      | (exfalso; omega)
      | (rw [if_pos (by omega)])
      | (rw [if_neg (by omega)])
      | trace_state
theorem regErr_ok {r : Reg} {bef : List Reg} (h : regErrE r bef = 0) : nameOK r.name = true ∧ (∀ x ∈ bef, x.name ≠ r.name) ∧ (0 ≤ r.kind ∧ r.kind ≤ 3) ∧ Geo.polyE r.corners = 0 := by
  unfold regErrE at h
  split at h
  · simp at h
  · split at h
    · simp at h
    · split at h
      · simp at h
      · rename_i h1 h2 h3
        refine ⟨by simpa using h1, fun x hx => ?_, Classical.not_not.1 h3, h⟩
        exact fun e => h2 (List.any_eq_true.2 ⟨x, hx, decide_eq_true e⟩)
def axErr (c : Chan) (i : Nat) : Int := match c.axis[i]? with
  | none => 0
  | some a => if axpOK c.over a = false then 2 else if 0 < i ∧ a.x = (axA c (i - 1)).x ∧ a.y = (axA c (i - 1)).y then 5 else 0
def regE (c : Chan) (i : Nat) : Int := match c.regions[i]? with
  | none => 0
  | some r => regErrE r (c.regions.take i)
def chanRE (c : Chan) : Int := if nameOK c.name = false then 4 else if ¬ ((0 ≤ c.over ∧ c.over ≤ 1000) ∧ (0 ≤ c.buffer ∧ c.buffer ≤ 100000)) then 2 else if c.axis.length < 2 then 10 else if 20 < c.axis.length then 8 else
  if firstE c.axis.length (axErr c) ≠ 0 then firstE c.axis.length (axErr c) else if 20 < c.regions.length then 8 else firstE c.regions.length (regE c)
theorem axErr_at {c : Chan} {i : Nat} (h : i < c.axis.length) : axErr c i = if axpOK c.over c.axis[i] = false then 2 else if 0 < i ∧ c.axis[i].x = (axA c (i - 1)).x ∧ c.axis[i].y = (axA c (i - 1)).y then 5 else 0 := by
  simp only [axErr, List.getElem?_eq_getElem h]
theorem regE_at {c : Chan} {i : Nat} (h : i < c.regions.length) : regE c i = regErrE c.regions[i] (c.regions.take i) := by simp only [regE, List.getElem?_eq_getElem h]
theorem firstAll' {n : Nat} {f : Nat → Int} (h : firstE n f = 0) : ∀ j, j < n → f j = 0 := firstE_all h
theorem chanR_ok {c : Chan} (h : chanRE c = 0) : OkChan c := by
  unfold chanRE at h
  split at h
  · simp at h
  rename_i h1
  split at h
  · simp at h
  rename_i h2
  have h2 := Classical.not_not.1 h2
  split at h
  · simp at h
  rename_i h3
  split at h
  · simp at h
  rename_i h4
  split at h
  · rename_i hne; exact absurd h hne
  rename_i h5
  have h5 := firstAll' (Classical.not_not.1 h5)
  split at h
  · simp at h
  rename_i h6
  have h7 := firstAll' h
  have A : ∀ i (hi : i < c.axis.length), axpOK c.over c.axis[i] = true ∧ ¬ (0 < i ∧ c.axis[i].x = (axA c (i - 1)).x ∧ c.axis[i].y = (axA c (i - 1)).y) := fun i hi => by
    have := h5 i hi
    rw [axErr_at hi] at this
    split at this
    · simp at this
    · rename_i g1
      split at this
      · simp at this
      · rename_i g2
        exact ⟨by simpa using g1, g2⟩
  have R : ∀ i (hi : i < c.regions.length), _ := fun i hi => regErr_ok ((regE_at hi).symm.trans (h7 i hi))
  refine ⟨by simpa using h1, h2.1, h2.2, by omega, fun a ha => ?_, fun i hi he => ?_, by omega, fun r hr => ?_, ?_⟩
  · obtain ⟨i, hi, rfl⟩ := List.mem_iff_getElem.1 ha
    exact (A i hi).1
  · refine (A (i + 1) hi).2 ⟨by omega, ?_⟩
    rw [show i + 1 - 1 = i by omega, axA_get (c := c) (i := i) (by omega)]
    exact he
  · obtain ⟨i, hi, rfl⟩ := List.mem_iff_getElem.1 hr
    have := R i hi
    exact ⟨this.1, this.2.2.1, this.2.2.2⟩
  · exact List.pairwise_iff_getElem.2 fun i j hi hj hij => (R j hj).2.1 c.regions[i] (List.mem_iff_getElem.2 ⟨i, by rw [List.length_take]; omega, by rw [List.getElem_take]⟩)
end Go.Pv.Soil

open Go Go.Proofs Go.Pv
set_option maxHeartbeats 4000000
set_option maxRecDepth 100000
set_option linter.unusedVariables false
set_option linter.unusedSimpArgs false
namespace Go.Pv.Soil
theorem chan_1 {c : Chan} {i : Nat} (h1 : nameOK c.name = true) (h2 : (0 ≤ c.over ∧ c.over ≤ 1000) ∧ (0 ≤ c.buffer ∧ c.buffer ≤ 100000)) (h3 : ¬ c.axis.length < 2) (h4 : ¬ 20 < c.axis.length) (hi : i < c.axis.length) (hC : ∀ j, j < i → axErr c j = 0) (hne : axErr c i ≠ 0) : chanRE c = axErr c i := by
  have e := firstE_at hi hC hne
  unfold chanRE
  rw [if_neg (by rw [h1]; simp), if_neg (not_not_intro h2), if_neg h3, if_neg h4, if_pos (by rw [e]; exact hne), e]
theorem chan_2 {c : Chan} (h1 : nameOK c.name = true) (h2 : (0 ≤ c.over ∧ c.over ≤ 1000) ∧ (0 ≤ c.buffer ∧ c.buffer ≤ 100000)) (h3 : ¬ c.axis.length < 2) (h4 : ¬ 20 < c.axis.length) (hC : ∀ j, j < c.axis.length → axErr c j = 0) : chanRE c = if 20 < c.regions.length then 8 else firstE c.regions.length (regE c) := by
  unfold chanRE
  rw [if_neg (by rw [h1]; simp), if_neg (not_not_intro h2), if_neg h3, if_neg h4, if_neg (by rw [firstE_zero hC]; simp)]
theorem r_ChanCheck (c : Chan) (ha : c.axis.length < 1000000000000) (hr : c.regions.length < 1000000000000) (hov : -1000000 ≤ c.over ∧ c.over ≤ 1000000 ∨ True) : Contract Tryz.prog 19 [.agg (encChan c)] (.ret (.int .i64 (chanRE c))) := by
  have hn := c83 c.name
  by_cases h1 : nameOK c.name = true
  rotate_left
  · have h1' : nameOK c.name = false := by simpa using h1
    rw [h1'] at hn
    refine contract_of mix Tryz.func19 rfl rfl (by rw [Tryz.ntmps19]; exact Nat.le_of_ble_eq_true rfl) ?_; rw [Tryz.results19, Tryz.ntmps19]; simp only [argsE, Nat.reduceAdd]
    repeat' first
           | (with_reducible apply go_op)
           | (with_reducible apply go_next)
           | ((with_reducible (show evOp _ _ _ _ _ _)); first
             | (((with_reducible apply go_mv_int); rfl; rfl))
             | ((with_reducible apply go_as))
             | (((with_reducible apply go_load_own); rfl; rfl; rfl; rfl))
             | (((with_reducible apply go_fieldAddr_own); rfl; rfl; rfl))
             | (((with_reducible apply go_fn_bool); rfl; (exact hn); rfl))
             | (((with_reducible apply go_not); rfl; rfl))
             | (((with_reducible apply go_bx_agg); rfl; rfl; (exact Nat.le_of_ble_eq_true rfl); rfl; rfl)))
           | ((with_reducible (show evOps _ _ _ _ _ _)); first
             | (with_reducible apply go_nil))
           | ((with_reducible (show evG _ _ _ _ _)); first
             | (with_reducible apply go_seq)
             | (with_reducible apply go_region)
             | ((with_reducible apply go_cond_t); rfl; rfl)
             | (with_reducible apply go_ret))
           | (with_reducible apply go_kseq)
           | (with_reducible apply go_kseq_ret)
           | ((with_reducible apply end_int); rfl)
    all_goals first | (unfold chanRE; rw [if_pos h1']) | trace_state
  rw [h1] at hn
  by_cases h2 : (0 ≤ c.over ∧ c.over ≤ 1000) ∧ (0 ≤ c.buffer ∧ c.buffer ≤ 100000)
  rotate_left
  · refine contract_of mix Tryz.func19 rfl rfl (by rw [Tryz.ntmps19]; exact Nat.le_of_ble_eq_true rfl) ?_; rw [Tryz.results19, Tryz.ntmps19]; simp only [argsE, Nat.reduceAdd]
    repeat' first
           | (with_reducible apply go_op)
           | (with_reducible apply go_next)
           | ((with_reducible (show evOp _ _ _ _ _ _)); first
             | ((with_reducible (show evOp _ (.move _) _ _ _ _)) ; first | ((with_reducible apply go_mv_int); rfl; rfl) | ((with_reducible apply go_mv_bool); rfl; rfl))
             | ((with_reducible apply go_as))
             | (((with_reducible apply go_load_own); rfl; rfl; rfl; rfl))
             | (((with_reducible apply go_fieldAddr_own); rfl; rfl; rfl))
             | (((with_reducible apply go_cmp); rfl; rfl; rfl; rfl))
             | ((with_reducible (show evOp _ (.call _) _ _ _ _)) ; first | ((with_reducible apply go_len); rfl; rfl) | ((with_reducible apply go_fn_bool); rfl; (exact hn); rfl) | ((with_reducible apply go_fn_bool); rfl; (exact c38 _ _ _); rfl))
             | (((with_reducible apply go_not); rfl; rfl))
             | (((with_reducible apply go_pick); rfl; rfl; rfl))
             | (((with_reducible apply go_bx_agg); rfl; rfl; (exact Nat.le_of_ble_eq_true rfl); rfl; rfl)))
           | ((with_reducible (show evOps _ _ _ _ _ _)); first
             | (with_reducible apply go_nil)
             | ((with_reducible apply go_run); rfl; rfl)
             | ((with_reducible apply go_pass); rfl; rfl; rfl)
             | (((with_reducible apply go_guard); rfl) <;> (intro h; simp only [h, Bool.not_true, Bool.not_false]; (try with_reducible (refine ⟨rfl, ?_⟩)); try simp only [decide_eq_true_eq, decide_eq_false_iff_not, Bool.not_eq_true', Bool.not_eq_false', Bool.not_true, Bool.not_false] at h; try exact absurd trivial h)))
           | ((with_reducible (show evG _ _ _ _ _)); first
             | (with_reducible apply go_seq)
             | (with_reducible apply go_region)
             | ((with_reducible apply go_cond_t); rfl; rfl)
             | ((with_reducible apply go_cond_f); rfl; rfl)
             | (((with_reducible apply go_cond); rfl) <;> (intro h; simp only [h]; try simp only [decide_eq_true_eq, decide_eq_false_iff_not, Bool.not_eq_true', Bool.not_eq_false', Bool.not_true, Bool.not_false] at h; try exact absurd trivial h))
             | (with_reducible apply go_ret)
             | (with_reducible apply go_skipc)
             | (with_reducible apply go_block))
           | (with_reducible apply go_kseq)
           | (with_reducible apply go_kseq_ret)
           | ((with_reducible apply end_int); rfl)
    all_goals first | (exfalso; omega) | (unfold chanRE; rw [if_neg (by rw [h1]; simp), if_pos h2]) | trace_state
  by_cases h3 : c.axis.length < 2
  · refine contract_of mix Tryz.func19 rfl rfl (by rw [Tryz.ntmps19]; exact Nat.le_of_ble_eq_true rfl) ?_; rw [Tryz.results19, Tryz.ntmps19]; simp only [argsE, Nat.reduceAdd]
    repeat' first
           | (with_reducible apply go_op)
           | (with_reducible apply go_next)
           | ((with_reducible (show evOp _ _ _ _ _ _)); first
             | ((with_reducible (show evOp _ (.move _) _ _ _ _)) ; first | ((with_reducible apply go_mv_int); rfl; rfl) | ((with_reducible apply go_mv_bool); rfl; rfl))
             | ((with_reducible apply go_as))
             | (((with_reducible apply go_load_own); rfl; rfl; rfl; rfl))
             | (((with_reducible apply go_fieldAddr_own); rfl; rfl; rfl))
             | (((with_reducible apply go_cmp); rfl; rfl; rfl; rfl))
             | ((with_reducible (show evOp _ (.call _) _ _ _ _)) ; first | ((with_reducible apply go_len); rfl; rfl) | ((with_reducible apply go_fn_bool); rfl; (exact hn); rfl) | ((with_reducible apply go_fn_bool); rfl; (exact c38 _ _ _); rfl))
             | (((with_reducible apply go_not); rfl; rfl))
             | (((with_reducible apply go_pick); rfl; rfl; rfl))
             | (((with_reducible apply go_bx_agg); rfl; rfl; (exact Nat.le_of_ble_eq_true rfl); rfl; rfl)))
           | ((with_reducible (show evOps _ _ _ _ _ _)); first
             | (with_reducible apply go_nil)
             | ((with_reducible apply go_run); rfl; rfl)
             | ((with_reducible apply go_pass); rfl; rfl; rfl)
             | (((with_reducible apply go_guard); rfl) <;> (intro h; simp only [h, Bool.not_true, Bool.not_false]; (try with_reducible (refine ⟨rfl, ?_⟩)); try simp only [decide_eq_true_eq, decide_eq_false_iff_not, Bool.not_eq_true', Bool.not_eq_false', Bool.not_true, Bool.not_false] at h; try exact absurd trivial h)))
           | ((with_reducible (show evG _ _ _ _ _)); first
             | (with_reducible apply go_seq)
             | (with_reducible apply go_region)
             | ((with_reducible apply go_cond_t); rfl; rfl)
             | ((with_reducible apply go_cond_f); rfl; rfl)
             | (((with_reducible apply go_cond); rfl) <;> (intro h; simp only [h]; try simp only [decide_eq_true_eq, decide_eq_false_iff_not, Bool.not_eq_true', Bool.not_eq_false', Bool.not_true, Bool.not_false] at h; try exact absurd trivial h))
             | (with_reducible apply go_ret)
             | (with_reducible apply go_skipc)
             | (with_reducible apply go_block))
           | (with_reducible apply go_kseq)
           | (with_reducible apply go_kseq_ret)
           | ((with_reducible apply end_int); rfl)
    all_goals first | (exfalso; omega) | (unfold chanRE; rw [if_neg (by rw [h1]; simp), if_neg (not_not_intro h2), if_pos h3]) | trace_state
  by_cases h4 : 20 < c.axis.length
  · refine contract_of mix Tryz.func19 rfl rfl (by rw [Tryz.ntmps19]; exact Nat.le_of_ble_eq_true rfl) ?_; rw [Tryz.results19, Tryz.ntmps19]; simp only [argsE, Nat.reduceAdd]
    repeat' first
           | (with_reducible apply go_op)
           | (with_reducible apply go_next)
           | ((with_reducible (show evOp _ _ _ _ _ _)); first
             | ((with_reducible (show evOp _ (.move _) _ _ _ _)) ; first | ((with_reducible apply go_mv_int); rfl; rfl) | ((with_reducible apply go_mv_bool); rfl; rfl))
             | ((with_reducible apply go_as))
             | (((with_reducible apply go_load_own); rfl; rfl; rfl; rfl))
             | (((with_reducible apply go_fieldAddr_own); rfl; rfl; rfl))
             | (((with_reducible apply go_cmp); rfl; rfl; rfl; rfl))
             | ((with_reducible (show evOp _ (.call _) _ _ _ _)) ; first | ((with_reducible apply go_len); rfl; rfl) | ((with_reducible apply go_fn_bool); rfl; (exact hn); rfl) | ((with_reducible apply go_fn_bool); rfl; (exact c38 _ _ _); rfl))
             | (((with_reducible apply go_not); rfl; rfl))
             | (((with_reducible apply go_pick); rfl; rfl; rfl))
             | (((with_reducible apply go_bx_agg); rfl; rfl; (exact Nat.le_of_ble_eq_true rfl); rfl; rfl)))
           | ((with_reducible (show evOps _ _ _ _ _ _)); first
             | (with_reducible apply go_nil)
             | ((with_reducible apply go_run); rfl; rfl)
             | ((with_reducible apply go_pass); rfl; rfl; rfl)
             | (((with_reducible apply go_guard); rfl) <;> (intro h; simp only [h, Bool.not_true, Bool.not_false]; (try with_reducible (refine ⟨rfl, ?_⟩)); try simp only [decide_eq_true_eq, decide_eq_false_iff_not, Bool.not_eq_true', Bool.not_eq_false', Bool.not_true, Bool.not_false] at h; try exact absurd trivial h)))
           | ((with_reducible (show evG _ _ _ _ _)); first
             | (with_reducible apply go_seq)
             | (with_reducible apply go_region)
             | ((with_reducible apply go_cond_t); rfl; rfl)
             | ((with_reducible apply go_cond_f); rfl; rfl)
             | (((with_reducible apply go_cond); rfl) <;> (intro h; simp only [h]; try simp only [decide_eq_true_eq, decide_eq_false_iff_not, Bool.not_eq_true', Bool.not_eq_false', Bool.not_true, Bool.not_false] at h; try exact absurd trivial h))
             | (with_reducible apply go_ret)
             | (with_reducible apply go_skipc)
             | (with_reducible apply go_block))
           | (with_reducible apply go_kseq)
           | (with_reducible apply go_kseq_ret)
           | ((with_reducible apply end_int); rfl)
    all_goals first | (exfalso; omega) | (unfold chanRE; rw [if_neg (by rw [h1]; simp), if_neg (not_not_intro h2), if_neg h3, if_pos h4]) | trace_state
  refine contract_of mix Tryz.func19 rfl rfl (by rw [Tryz.ntmps19]; exact Nat.le_of_ble_eq_true rfl) ?_; rw [Tryz.results19, Tryz.ntmps19]; simp only [argsE, Nat.reduceAdd]
  repeat' first
           | (with_reducible apply go_op)
           | (with_reducible apply go_next)
           | ((with_reducible (show evOp _ _ _ _ _ _)); first
             | ((with_reducible (show evOp _ (.move _) _ _ _ _)) ; first | ((with_reducible apply go_mv_int); rfl; rfl) | ((with_reducible apply go_mv_bool); rfl; rfl))
             | ((with_reducible apply go_as))
             | (((with_reducible apply go_load_own); rfl; rfl; rfl; rfl))
             | (((with_reducible apply go_fieldAddr_own); rfl; rfl; rfl))
             | (((with_reducible apply go_cmp); rfl; rfl; rfl; rfl))
             | ((with_reducible (show evOp _ (.call _) _ _ _ _)) ; first | ((with_reducible apply go_len); rfl; rfl) | ((with_reducible apply go_fn_bool); rfl; (exact hn); rfl) | ((with_reducible apply go_fn_bool); rfl; (exact c38 _ _ _); rfl))
             | (((with_reducible apply go_not); rfl; rfl))
             | (((with_reducible apply go_pick); rfl; rfl; rfl))
             | (((with_reducible apply go_bx_agg); rfl; rfl; (exact Nat.le_of_ble_eq_true rfl); rfl; rfl)))
           | ((with_reducible (show evOps _ _ _ _ _ _)); first
             | (with_reducible apply go_nil)
             | ((with_reducible apply go_run); rfl; rfl)
             | ((with_reducible apply go_pass); rfl; rfl; rfl)
             | (((with_reducible apply go_guard); rfl) <;> (intro h; simp only [h, Bool.not_true, Bool.not_false]; (try with_reducible (refine ⟨rfl, ?_⟩)); try simp only [decide_eq_true_eq, decide_eq_false_iff_not, Bool.not_eq_true', Bool.not_eq_false', Bool.not_true, Bool.not_false] at h; try exact absurd trivial h)))
           | ((with_reducible (show evG _ _ _ _ _)); first
             | (with_reducible apply go_seq)
             | (with_reducible apply go_region)
             | ((with_reducible apply go_cond_t); rfl; rfl)
             | ((with_reducible apply go_cond_f); rfl; rfl)
             | (((with_reducible apply go_cond); rfl) <;> (intro h; simp only [h]; try simp only [decide_eq_true_eq, decide_eq_false_iff_not, Bool.not_eq_true', Bool.not_eq_false', Bool.not_true, Bool.not_false] at h; try exact absurd trivial h))
             | (with_reducible apply go_ret)
             | (with_reducible apply go_skipc)
             | (with_reducible apply go_block))
           | (with_reducible apply go_kseq)
           | (with_reducible apply go_kseq_ret)
           | ((with_reducible apply end_int); rfl)
  all_goals try (exfalso; omega)
  refine go_count c.axis.length (fun i => ⟨[(3, .int .i64 i), (1, .op 0 0 0)], [(0, ⟨5, true, [encChan c]⟩)], 32, 104⟩) (fun i => ∀ j, j < i → axErr c j = 0) (entails_eq (nx := 32) (k := 0) (ns := []) (ks := [3, 1]) [(0, 0)] rfl (by simp) (by kernel_rfl)) (by omega) ?_
  intro i hi hC
  by_cases hlt : i < c.axis.length
  · have hs := axErr_at hlt
    have hgd : 0 < i → ∀ h : ((i : Int) - 1).toNat < c.axis.length, axA c (i - 1) = c.axis[((i : Int) - 1).toNat]'h := fun hp h => by
      have e : ((i : Int) - 1).toNat = i - 1 := by omega
      rw [axA_get (c := c) (i := i - 1) (by omega)]
      simp only [e]
    have q1 := r_place c.axis[i]
    have q2 := Geo.c_good (axPt c.axis[i])
    by_cases hok : axpOK c.over c.axis[i] = true
    · have hok' := of_decide_eq_true hok
      have hpt : Geo.ptOK (axPt c.axis[i]) = true := decide_eq_true hok'.1
      rw [hpt] at q2
      rw [if_neg (by rw [hok]; simp)] at hs
      repeat' first
           | (with_reducible apply go_op)
           | (with_reducible apply go_next)
           | ((with_reducible (show evOp _ _ _ _ _ _)); first
             | ((with_reducible (show evOp _ (.move _) _ _ _ _)) ; first | ((with_reducible apply go_mv_int); rfl; rfl) | ((with_reducible apply go_mv_bool); rfl; rfl))
             | ((with_reducible apply go_as))
             | ((with_reducible (show evOp _ (.load _ _) _ _ _ _)) ; first | ((with_reducible apply go_ld_ptr); rfl; rfl; rfl) | ((with_reducible apply go_ld_agg); rfl; rfl; rfl; rfl) | ((with_reducible apply go_load_own); rfl; rfl; rfl; rfl))
             | (((with_reducible apply go_fieldAddr_own); rfl; rfl; rfl))
             | ((with_reducible (show evOp _ (.indexAddr _ _ _) _ _ _ _)) ; first | ((with_reducible apply go_index_nat); rfl; rfl; (with_reducible rfl); (intro; rfl); rfl; omega; (intro hlt)) | ((with_reducible apply go_index); rfl; rfl; (intro; rfl); rfl; omega; intro hlt))
             | ((with_reducible (show evOp _ (.binOp _ _ _ _ _) _ _ _ _)) ; first | ((with_reducible apply go_cmp); rfl; rfl; rfl; rfl) | ((with_reducible apply go_add); rfl; rfl; rfl; omega) | ((with_reducible apply go_sub); rfl; rfl; rfl; omega) | ((with_reducible apply go_eql_agg); rfl; rfl; rfl; rfl))
             | ((with_reducible (show evOp _ (.call _) _ _ _ _)) ; first | ((with_reducible apply go_len); rfl; rfl) | ((with_reducible apply go_fn_plain); rfl; (exact q1); rfl; (exact Nat.le_of_ble_eq_true rfl); rfl) | ((with_reducible apply go_fn_bool); rfl; (exact q2); rfl) | ((with_reducible apply go_fn_bool); rfl; (exact c38 _ _ _); rfl) | ((with_reducible apply go_fn_plain); rfl; (exact r_place _); rfl; (exact Nat.le_of_ble_eq_true rfl); rfl))
             | (((with_reducible apply go_st_agg); rfl; rfl; rfl; rfl; rfl; rfl; rfl))
             | (((with_reducible apply go_not); rfl; rfl))
             | (((with_reducible apply go_pick); rfl; rfl; rfl))
             | (((with_reducible apply go_alloc); rfl; rfl; rfl)))
           | ((with_reducible (show evOps _ _ _ _ _ _)); first
             | (with_reducible apply go_nil)
             | ((with_reducible apply go_run); rfl; rfl)
             | ((with_reducible apply go_pass); rfl; rfl; rfl)
             | (((with_reducible apply go_guard); rfl) <;> (intro h; simp only [h, Bool.not_true, Bool.not_false]; (try with_reducible (refine ⟨rfl, ?_⟩)); try simp only [decide_eq_true_eq, decide_eq_false_iff_not, Bool.not_eq_true', Bool.not_eq_false', Bool.not_true, Bool.not_false] at h; try exact absurd trivial h))
             | ((with_reducible apply go_pre); rfl)
             | (with_reducible apply go_pre_nil)
             | ((with_reducible apply go_suf); rfl)
             | (with_reducible apply go_suf_nil))
           | ((with_reducible (show evG _ _ _ _ _)); first
             | (with_reducible apply go_seq)
             | (with_reducible apply go_region)
             | ((with_reducible apply go_cond_t); rfl; rfl)
             | ((with_reducible apply go_cond_f); rfl; rfl)
             | (((with_reducible apply go_cond); rfl) <;> (intro h; simp only [h]; try simp only [decide_eq_true_eq, decide_eq_false_iff_not, Bool.not_eq_true', Bool.not_eq_false', Bool.not_true, Bool.not_false] at h; try exact absurd trivial h))
             | ((with_reducible apply go_order); kernel_rfl; rfl)
             | (with_reducible apply go_ret)
             | (with_reducible apply go_skipc)
             | (with_reducible apply go_block)
             | (with_reducible apply go_exit))
           | (with_reducible apply go_kseq)
           | (with_reducible apply go_ksuf)
           | (with_reducible apply go_kseq_ret)
           | (with_reducible apply go_kblock)
           | (with_reducible apply go_kblock_ret)
           | (with_reducible apply go_kblock_exit)
           | (with_reducible apply go_kseq_exit)
           | ((with_reducible apply end_int); rfl)
      all_goals first
        | exact absurd hlt (by omega)
        | (exfalso; omega)
        | (have he : axErr c i = 5 := by
             have hh : c.axis[i].x = (axA c (i - 1)).x ∧ c.axis[i].y = (axA c (i - 1)).y := by
               rw [hgd (by omega) (by omega)]
               simpa [axPt] using h
             rw [hs, if_pos ⟨by omega, hh⟩]
           rw [chan_1 h1 h2 h3 h4 (by omega) hC (by rw [he]; decide), he])
        | (have he : axErr c i = 0 := by
             have hh : ¬ (0 < i ∧ c.axis[i].x = (axA c (i - 1)).x ∧ c.axis[i].y = (axA c (i - 1)).y) := by
               rintro ⟨p1, p2⟩
               first
                 | (exfalso; omega)
                 | (rw [hgd p1 (by omega)] at p2
                    simp [axPt, p2.1, p2.2] at h)
             rw [hs, if_neg hh]
           refine ⟨by omega, fun j hj => ?_, entails_eq (nx := 32) (k := 0) (ns := []) (ks := [3, 1]) [(0, 0)] rfl (by simp) (by kernel_rfl)⟩
           rcases Nat.lt_succ_iff_lt_or_eq.1 hj with h' | rfl
           · exact hC j h'
           · exact he)
        | trace_state
    · have hokf : axpOK c.over c.axis[i] = false := by simpa using hok
      have hok' := of_decide_eq_false hokf
      rw [if_pos hokf] at hs
      cases hpt : Geo.ptOK (axPt c.axis[i]) with
      | false =>
        rw [hpt] at q2
        repeat' first
           | (with_reducible apply go_op)
           | (with_reducible apply go_next)
           | ((with_reducible (show evOp _ _ _ _ _ _)); first
             | ((with_reducible (show evOp _ (.move _) _ _ _ _)) ; first | ((with_reducible apply go_mv_int); rfl; rfl) | ((with_reducible apply go_mv_bool); rfl; rfl))
             | ((with_reducible apply go_as))
             | ((with_reducible (show evOp _ (.load _ _) _ _ _ _)) ; first | ((with_reducible apply go_ld_ptr); rfl; rfl; rfl) | ((with_reducible apply go_ld_agg); rfl; rfl; rfl; rfl) | ((with_reducible apply go_load_own); rfl; rfl; rfl; rfl))
             | (((with_reducible apply go_fieldAddr_own); rfl; rfl; rfl))
             | (((with_reducible apply go_index_nat); rfl; rfl; (with_reducible rfl); (intro; rfl); rfl; omega; (intro hlt)))
             | (((with_reducible apply go_cmp); rfl; rfl; rfl; rfl))
             | ((with_reducible (show evOp _ (.call _) _ _ _ _)) ; first | ((with_reducible apply go_len); rfl; rfl) | ((with_reducible apply go_fn_plain); rfl; (exact q1); rfl; (exact Nat.le_of_ble_eq_true rfl); rfl) | ((with_reducible apply go_fn_bool); rfl; (exact q2); rfl))
             | (((with_reducible apply go_st_agg); rfl; rfl; rfl; rfl; rfl; rfl; rfl))
             | (((with_reducible apply go_not); rfl; rfl))
             | (((with_reducible apply go_pick); rfl; rfl; rfl))
             | (((with_reducible apply go_alloc); rfl; rfl; rfl)))
           | ((with_reducible (show evOps _ _ _ _ _ _)); first
             | (with_reducible apply go_nil)
             | ((with_reducible apply go_pass); rfl; rfl; rfl))
           | ((with_reducible (show evG _ _ _ _ _)); first
             | (with_reducible apply go_seq)
             | (with_reducible apply go_region)
             | ((with_reducible apply go_cond_t); rfl; rfl)
             | (((with_reducible apply go_cond); rfl) <;> (intro h; simp only [h]; try simp only [decide_eq_true_eq, decide_eq_false_iff_not, Bool.not_eq_true', Bool.not_eq_false', Bool.not_true, Bool.not_false] at h; try exact absurd trivial h))
             | (with_reducible apply go_ret)
             | (with_reducible apply go_skipc)
             | (with_reducible apply go_block)
             | (with_reducible apply go_exit))
           | (with_reducible apply go_kseq)
           | (with_reducible apply go_kseq_ret)
           | (with_reducible apply go_kblock_ret)
           | (with_reducible apply go_kblock_exit)
           | (with_reducible apply go_kseq_exit)
           | ((with_reducible apply end_int); rfl)
        all_goals first
          | exact absurd hlt (by omega)
          | (rw [chan_1 h1 h2 h3 h4 hlt hC (by rw [hs]; decide), hs])
          | trace_state
      | true =>
        have hpt' := of_decide_eq_true hpt
        simp only [axPt] at hpt'
        rw [hpt] at q2
        repeat' first
           | (with_reducible apply go_op)
           | (with_reducible apply go_next)
           | ((with_reducible (show evOp _ _ _ _ _ _)); first
             | ((with_reducible (show evOp _ (.move _) _ _ _ _)) ; first | ((with_reducible apply go_mv_int); rfl; rfl) | ((with_reducible apply go_mv_bool); rfl; rfl))
             | ((with_reducible apply go_as))
             | ((with_reducible (show evOp _ (.load _ _) _ _ _ _)) ; first | ((with_reducible apply go_ld_ptr); rfl; rfl; rfl) | ((with_reducible apply go_ld_agg); rfl; rfl; rfl; rfl) | ((with_reducible apply go_load_own); rfl; rfl; rfl; rfl))
             | (((with_reducible apply go_fieldAddr_own); rfl; rfl; rfl))
             | ((with_reducible (show evOp _ (.indexAddr _ _ _) _ _ _ _)) ; first | ((with_reducible apply go_index_nat); rfl; rfl; (with_reducible rfl); (intro; rfl); rfl; omega; (intro hlt)) | ((with_reducible apply go_index); rfl; rfl; (intro; rfl); rfl; omega; intro hlt))
             | ((with_reducible (show evOp _ (.binOp _ _ _ _ _) _ _ _ _)) ; first | ((with_reducible apply go_cmp); rfl; rfl; rfl; rfl) | ((with_reducible apply go_add); rfl; rfl; rfl; omega) | ((with_reducible apply go_sub); rfl; rfl; rfl; omega) | ((with_reducible apply go_eql_agg); rfl; rfl; rfl; rfl))
             | ((with_reducible (show evOp _ (.call _) _ _ _ _)) ; first | ((with_reducible apply go_len); rfl; rfl) | ((with_reducible apply go_fn_plain); rfl; (exact q1); rfl; (exact Nat.le_of_ble_eq_true rfl); rfl) | ((with_reducible apply go_fn_bool); rfl; (exact q2); rfl) | ((with_reducible apply go_fn_bool); rfl; (exact c38 _ _ _); rfl) | ((with_reducible apply go_fn_plain); rfl; (exact r_place _); rfl; (exact Nat.le_of_ble_eq_true rfl); rfl))
             | (((with_reducible apply go_st_agg); rfl; rfl; rfl; rfl; rfl; rfl; rfl))
             | (((with_reducible apply go_not); rfl; rfl))
             | (((with_reducible apply go_pick); rfl; rfl; rfl))
             | (((with_reducible apply go_alloc); rfl; rfl; rfl)))
           | ((with_reducible (show evOps _ _ _ _ _ _)); first
             | (with_reducible apply go_nil)
             | ((with_reducible apply go_run); rfl; rfl)
             | ((with_reducible apply go_pass); rfl; rfl; rfl)
             | (((with_reducible apply go_guard); rfl) <;> (intro h; simp only [h, Bool.not_true, Bool.not_false]; (try with_reducible (refine ⟨rfl, ?_⟩)); try simp only [decide_eq_true_eq, decide_eq_false_iff_not, Bool.not_eq_true', Bool.not_eq_false', Bool.not_true, Bool.not_false] at h; try exact absurd trivial h))
             | ((with_reducible apply go_pre); rfl)
             | (with_reducible apply go_pre_nil)
             | ((with_reducible apply go_suf); rfl)
             | (with_reducible apply go_suf_nil))
           | ((with_reducible (show evG _ _ _ _ _)); first
             | (with_reducible apply go_seq)
             | (with_reducible apply go_region)
             | ((with_reducible apply go_cond_t); rfl; rfl)
             | ((with_reducible apply go_cond_f); rfl; rfl)
             | (((with_reducible apply go_cond); rfl) <;> (intro h; simp only [h]; try simp only [decide_eq_true_eq, decide_eq_false_iff_not, Bool.not_eq_true', Bool.not_eq_false', Bool.not_true, Bool.not_false] at h; try exact absurd trivial h))
             | ((with_reducible apply go_order); kernel_rfl; rfl)
             | (with_reducible apply go_ret)
             | (with_reducible apply go_skipc)
             | (with_reducible apply go_block)
             | (with_reducible apply go_exit))
           | (with_reducible apply go_kseq)
           | (with_reducible apply go_ksuf)
           | (with_reducible apply go_kseq_ret)
           | (with_reducible apply go_kblock)
           | (with_reducible apply go_kblock_ret)
           | (with_reducible apply go_kblock_exit)
           | (with_reducible apply go_kseq_exit)
           | ((with_reducible apply end_int); rfl)
        all_goals first
          | exact absurd hlt (by omega)
          | (rw [chan_1 h1 h2 h3 h4 hlt hC (by rw [hs]; decide), hs])
          | (exfalso; omega)
          | trace_state
  · have e : i = c.axis.length := by omega
    subst e
    have hun := chan_2 h1 h2 h3 h4 hC
    by_cases h5 : 20 < c.regions.length
    · repeat' first
           | (with_reducible apply go_op)
           | (with_reducible apply go_next)
           | ((with_reducible (show evOp _ _ _ _ _ _)); first
             | (((with_reducible apply go_mv_int); rfl; rfl))
             | ((with_reducible apply go_as))
             | ((with_reducible (show evOp _ (.load _ _) _ _ _ _)) ; first | ((with_reducible apply go_ld_ptr); rfl; rfl; rfl) | ((with_reducible apply go_ld_agg); rfl; rfl; rfl; rfl) | ((with_reducible apply go_load_own); rfl; rfl; rfl; rfl))
             | (((with_reducible apply go_fieldAddr_own); rfl; rfl; rfl))
             | (((with_reducible apply go_index_nat); rfl; rfl; (with_reducible rfl); (intro; rfl); rfl; omega; (intro hlt)))
             | (((with_reducible apply go_cmp); rfl; rfl; rfl; rfl))
             | (((with_reducible apply go_len); rfl; rfl))
             | (((with_reducible apply go_st_agg); rfl; rfl; rfl; rfl; rfl; rfl; rfl))
             | (((with_reducible apply go_alloc); rfl; rfl; rfl)))
           | ((with_reducible (show evOps _ _ _ _ _ _)); first
             | (with_reducible apply go_nil))
           | ((with_reducible (show evG _ _ _ _ _)); first
             | (with_reducible apply go_seq)
             | (with_reducible apply go_region)
             | (((with_reducible apply go_cond); rfl) <;> (intro h; simp only [h]; try simp only [decide_eq_true_eq, decide_eq_false_iff_not, Bool.not_eq_true', Bool.not_eq_false', Bool.not_true, Bool.not_false] at h; try exact absurd trivial h))
             | (with_reducible apply go_ret)
             | (with_reducible apply go_skipc)
             | (with_reducible apply go_block)
             | (with_reducible apply go_exit))
           | (with_reducible apply go_kseq)
           | (with_reducible apply go_kseq_ret)
           | (with_reducible apply go_kblock_exit)
           | (with_reducible apply go_kseq_exit)
           | ((with_reducible apply end_int); rfl)
      all_goals first | (exfalso; omega) | (rw [hun, if_pos h5]) | trace_state
    rw [if_neg h5] at hun
    repeat' first
           | (with_reducible apply go_op)
           | (with_reducible apply go_next)
           | ((with_reducible (show evOp _ _ _ _ _ _)); first
             | (((with_reducible apply go_mv_int); rfl; rfl))
             | ((with_reducible apply go_as))
             | ((with_reducible (show evOp _ (.load _ _) _ _ _ _)) ; first | ((with_reducible apply go_ld_ptr); rfl; rfl; rfl) | ((with_reducible apply go_ld_agg); rfl; rfl; rfl; rfl) | ((with_reducible apply go_load_own); rfl; rfl; rfl; rfl))
             | (((with_reducible apply go_fieldAddr_own); rfl; rfl; rfl))
             | (((with_reducible apply go_index_nat); rfl; rfl; (with_reducible rfl); (intro; rfl); rfl; omega; (intro hlt)))
             | (((with_reducible apply go_cmp); rfl; rfl; rfl; rfl))
             | (((with_reducible apply go_len); rfl; rfl))
             | (((with_reducible apply go_st_agg); rfl; rfl; rfl; rfl; rfl; rfl; rfl))
             | (((with_reducible apply go_alloc); rfl; rfl; rfl)))
           | ((with_reducible (show evOps _ _ _ _ _ _)); first
             | (with_reducible apply go_nil))
           | ((with_reducible (show evG _ _ _ _ _)); first
             | (with_reducible apply go_seq)
             | (with_reducible apply go_region)
             | (((with_reducible apply go_cond); rfl) <;> (intro h; simp only [h]; try simp only [decide_eq_true_eq, decide_eq_false_iff_not, Bool.not_eq_true', Bool.not_eq_false', Bool.not_true, Bool.not_false] at h; try exact absurd trivial h))
             | (with_reducible apply go_ret)
             | (with_reducible apply go_skipc)
             | (with_reducible apply go_block)
             | (with_reducible apply go_exit))
           | (with_reducible apply go_kseq)
           | (with_reducible apply go_kseq_ret)
           | (with_reducible apply go_kblock_exit)
           | (with_reducible apply go_kseq_exit)
           | ((with_reducible apply end_int); rfl)
    all_goals try (exfalso; omega)
    refine go_count c.regions.length (fun i => ⟨[(5, .int .i64 i), (1, .op 0 0 0)], [(0, ⟨5, true, [encChan c]⟩)], 32, 104⟩) (fun i => ∀ j, j < i → regE c j = 0) (entails_eq (nx := 32) (k := 0) (ns := []) (ks := [5, 1]) [(0, 0)] rfl (by simp) (by kernel_rfl)) (by omega) ?_
    intro m hm hD
    by_cases hlm : m < c.regions.length
    · have hr := r_RegionErr c.regions[m] (c.regions.take m) (by rw [List.length_take]; omega)
      have hs := regE_at hlm
      rw [← hs] at hr
      generalize hq : regE c m = q at *
      repeat' first
           | (with_reducible apply go_op)
           | (with_reducible apply go_next)
           | ((with_reducible (show evOp _ _ _ _ _ _)); first
             | (((with_reducible apply go_mv_int); rfl; rfl))
             | ((with_reducible apply go_as))
             | ((with_reducible (show evOp _ (.load _ _) _ _ _ _)) ; first | ((with_reducible apply go_ld_ptr); rfl; rfl; rfl) | ((with_reducible apply go_load_own); rfl; rfl; rfl; rfl))
             | (((with_reducible apply go_fieldAddr_own); rfl; rfl; rfl))
             | (((with_reducible apply go_index_nat); rfl; rfl; (with_reducible rfl); (intro; rfl); rfl; omega; (intro hlt)))
             | ((with_reducible (show evOp _ (.binOp _ _ _ _ _) _ _ _ _)) ; first | ((with_reducible apply go_cmp); rfl; rfl; rfl; rfl) | ((with_reducible apply go_add); rfl; rfl; rfl; omega))
             | ((with_reducible (show evOp _ (.call _) _ _ _ _)) ; first | ((with_reducible apply go_len); rfl; rfl) | ((with_reducible apply go_fn_int); rfl; (exact hr); rfl))
             | (((with_reducible apply go_take_sl); rfl; rfl; (intro; rfl); rfl; omega)))
           | ((with_reducible (show evOps _ _ _ _ _ _)); first
             | (with_reducible apply go_nil)
             | ((with_reducible apply go_pre); rfl)
             | (with_reducible apply go_pre_nil)
             | ((with_reducible apply go_suf); rfl)
             | (with_reducible apply go_suf_nil))
           | ((with_reducible (show evG _ _ _ _ _)); first
             | (with_reducible apply go_seq)
             | (with_reducible apply go_region)
             | (((with_reducible apply go_cond); rfl) <;> (intro h; simp only [h]; try simp only [decide_eq_true_eq, decide_eq_false_iff_not, Bool.not_eq_true', Bool.not_eq_false', Bool.not_true, Bool.not_false] at h; try exact absurd trivial h))
             | ((with_reducible apply go_order); kernel_rfl; rfl)
             | (with_reducible apply go_ret)
             | (with_reducible apply go_skipc)
             | (with_reducible apply go_block)
             | (with_reducible apply go_exit))
           | (with_reducible apply go_kseq)
           | (with_reducible apply go_ksuf)
           | (with_reducible apply go_kseq_ret)
           | (with_reducible apply go_kblock)
           | (with_reducible apply go_kblock_ret)
           | (with_reducible apply go_kblock_exit)
           | (with_reducible apply go_kseq_exit)
           | ((with_reducible apply end_int); rfl)
      all_goals first
        | exact absurd hlm (by omega)
        | (exfalso; omega)
        | (rw [hun, firstE_at (by omega) hD (by rw [hq]; assumption), hq])
        | (refine ⟨by omega, fun j hj => ?_, entails_eq (nx := 32) (k := 0) (ns := []) (ks := [5, 1]) [(0, 0)] rfl (by simp) (by kernel_rfl)⟩
           rcases Nat.lt_succ_iff_lt_or_eq.1 hj with h' | rfl
           · exact hD j h'
           · rw [hq]; assumption)
        | trace_state
    · repeat' first
           | (with_reducible apply go_op)
           | (with_reducible apply go_next)
           | ((with_reducible (show evOp _ _ _ _ _ _)); first
             | (((with_reducible apply go_mv_int); rfl; rfl))
             | ((with_reducible apply go_as))
             | ((with_reducible (show evOp _ (.load _ _) _ _ _ _)) ; first | ((with_reducible apply go_ld_ptr); rfl; rfl; rfl) | ((with_reducible apply go_load_own); rfl; rfl; rfl; rfl))
             | (((with_reducible apply go_fieldAddr_own); rfl; rfl; rfl))
             | (((with_reducible apply go_index_nat); rfl; rfl; (with_reducible rfl); (intro; rfl); rfl; omega; (intro hlt)))
             | (((with_reducible apply go_cmp); rfl; rfl; rfl; rfl))
             | (((with_reducible apply go_len); rfl; rfl))
             | (((with_reducible apply go_take_sl); rfl; rfl; (intro; rfl); rfl; omega)))
           | ((with_reducible (show evOps _ _ _ _ _ _)); first
             | (with_reducible apply go_nil)
             | ((with_reducible apply go_pre); rfl))
           | ((with_reducible (show evG _ _ _ _ _)); first
             | (with_reducible apply go_seq)
             | (with_reducible apply go_region)
             | (((with_reducible apply go_cond); rfl) <;> (intro h; simp only [h]; try simp only [decide_eq_true_eq, decide_eq_false_iff_not, Bool.not_eq_true', Bool.not_eq_false', Bool.not_true, Bool.not_false] at h; try exact absurd trivial h))
             | ((with_reducible apply go_order); kernel_rfl; rfl)
             | (with_reducible apply go_ret)
             | (with_reducible apply go_skipc)
             | (with_reducible apply go_block)
             | (with_reducible apply go_exit))
           | (with_reducible apply go_kseq)
           | (with_reducible apply go_kblock_exit)
           | (with_reducible apply go_kseq_exit)
           | ((with_reducible apply end_int); rfl)
      all_goals first
        | exact absurd hlm (by omega)
        | (exfalso; omega)
        | (rw [hun]; exact (firstE_zero fun j hj => hD j (by omega)).symm)
        | trace_state
end Go.Pv.Soil

open Go Go.Proofs Go.Pv
set_option maxHeartbeats 4000000
set_option maxRecDepth 100000
set_option linter.unusedVariables false
set_option linter.unusedSimpArgs false
namespace Go.Pv.Soil
def withE (c : Chan) (g : Grid) : Int := if chanRE c ≠ 0 then chanRE c else gridE g
theorem r_With (c : Chan) (g : Grid) (ha : c.axis.length < 1000000000000) (hr : c.regions.length < 1000000000000) (hl : g.levels.length < 1000000000000) : Contract Tryz.prog 9 [.agg (encChan c), .sl ([g].map encGrid)] (.ret (.int .i64 (withE c g))) := by
  have y1 := r_ChanCheck c ha hr (.inr trivial)
  have y2 := c28 g hl
  unfold withE
  by_cases h1 : chanRE c = 0
  rotate_left
  · rw [if_pos h1]
    generalize chanRE c = q at *
    refine contract_of mix Tryz.func9 rfl rfl (by rw [Tryz.ntmps9]; exact Nat.le_of_ble_eq_true rfl) ?_; rw [Tryz.results9, Tryz.ntmps9]; simp only [argsE, Nat.reduceAdd]
    repeat' first
           | (with_reducible apply go_op)
           | (with_reducible apply go_next)
           | ((with_reducible (show evOp _ _ _ _ _ _)); first
             | (((with_reducible apply go_mv_int); rfl; rfl))
             | ((with_reducible apply go_as))
             | (((with_reducible apply go_ld_agg); rfl; rfl; rfl; rfl))
             | (((with_reducible apply go_cmp); rfl; rfl; rfl; rfl))
             | (((with_reducible apply go_fn_int); rfl; (exact y1); rfl))
             | (((with_reducible apply go_bx_agg); rfl; rfl; (exact Nat.le_of_ble_eq_true rfl); rfl; rfl)))
           | ((with_reducible (show evOps _ _ _ _ _ _)); first
             | (with_reducible apply go_nil))
           | ((with_reducible (show evG _ _ _ _ _)); first
             | (with_reducible apply go_seq)
             | (with_reducible apply go_region)
             | (((with_reducible apply go_cond); rfl) <;> (intro h; simp only [h]; try simp only [decide_eq_true_eq, decide_eq_false_iff_not, Bool.not_eq_true', Bool.not_eq_false', Bool.not_true, Bool.not_false] at h; try exact absurd trivial h))
             | (with_reducible apply go_ret)
             | (with_reducible apply go_skipc)
             | (with_reducible apply go_block))
           | (with_reducible apply go_kseq)
           | (with_reducible apply go_kseq_ret)
           | ((with_reducible apply end_int); rfl)
           | (with_reducible rfl)
    all_goals first | rfl | (exfalso; omega) | trace_state
  rw [if_neg (not_not_intro h1)]
  rw [h1] at y1
  refine contract_of mix Tryz.func9 rfl rfl (by rw [Tryz.ntmps9]; exact Nat.le_of_ble_eq_true rfl) ?_; rw [Tryz.results9, Tryz.ntmps9]; simp only [argsE, Nat.reduceAdd]
  repeat' first
           | (with_reducible apply go_op)
           | (with_reducible apply go_next)
           | ((with_reducible (show evOp _ _ _ _ _ _)); first
             | (((with_reducible apply go_mv_int); rfl; rfl))
             | ((with_reducible apply go_as))
             | (((with_reducible apply go_ld_agg); rfl; rfl; rfl; rfl))
             | (((with_reducible apply go_cmp); rfl; rfl; rfl; rfl))
             | (((with_reducible apply go_fn_int); rfl; (exact y1); rfl))
             | (((with_reducible apply go_bx_agg); rfl; rfl; (exact Nat.le_of_ble_eq_true rfl); rfl; rfl)))
           | ((with_reducible (show evOps _ _ _ _ _ _)); first
             | (with_reducible apply go_nil))
           | ((with_reducible (show evG _ _ _ _ _)); first
             | (with_reducible apply go_seq)
             | (with_reducible apply go_region)
             | ((with_reducible apply go_cond_f); rfl; rfl)
             | (with_reducible apply go_skipc)
             | (with_reducible apply go_block))
           | (with_reducible apply go_kseq)
  all_goals try (exfalso; omega)
  refine go_count 1 (fun i => ⟨[(6, .int .i64 i), (1, .sl ([g].map encGrid)), (2, .op 0 0 0)], [(0, ⟨5, true, [encChan c]⟩)], 32, 40⟩) (fun i => 0 < i → gridE g = 0) (entails_eq (nx := 32) (k := 0) (ns := []) (ks := [6, 1, 2]) [(0, 0)] rfl (by simp) (by kernel_rfl)) (by omega) ?_
  intro i hi hC
  by_cases hlt : i < 1
  · obtain rfl : i = 0 := by omega
    generalize hq : gridE g = q at *
    repeat' first
           | (with_reducible apply go_op)
           | (with_reducible apply go_next)
           | ((with_reducible (show evOp _ _ _ _ _ _)); first
             | ((with_reducible (show evOp _ (.move _) _ _ _ _)) ; first | ((with_reducible apply go_mv_int); rfl; rfl) | ((with_reducible apply go_mv_sl); rfl; rfl))
             | ((with_reducible apply go_as))
             | (((with_reducible apply go_ld_ptr); rfl; rfl; rfl))
             | (((with_reducible apply go_index_nat); rfl; rfl; (with_reducible rfl); (intro; rfl); rfl; omega; (intro hlt)))
             | ((with_reducible (show evOp _ (.binOp _ _ _ _ _) _ _ _ _)) ; first | ((with_reducible apply go_cmp); rfl; rfl; rfl; rfl) | ((with_reducible apply go_add); rfl; rfl; rfl; omega))
             | ((with_reducible (show evOp _ (.call _) _ _ _ _)) ; first | ((with_reducible apply go_len); rfl; rfl) | ((with_reducible apply go_fn_int); rfl; (exact y2); rfl)))
           | ((with_reducible (show evOps _ _ _ _ _ _)); first
             | (with_reducible apply go_nil))
           | ((with_reducible (show evG _ _ _ _ _)); first
             | (with_reducible apply go_seq)
             | (with_reducible apply go_region)
             | ((with_reducible apply go_cond_t); rfl; rfl)
             | (((with_reducible apply go_cond); rfl) <;> (intro h; simp only [h]; try simp only [decide_eq_true_eq, decide_eq_false_iff_not, Bool.not_eq_true', Bool.not_eq_false', Bool.not_true, Bool.not_false] at h; try exact absurd trivial h))
             | (with_reducible apply go_ret)
             | (with_reducible apply go_skipc)
             | (with_reducible apply go_block))
           | (with_reducible apply go_kseq)
           | (with_reducible apply go_kseq_ret)
           | (with_reducible apply go_kblock)
           | (with_reducible apply go_kblock_ret)
           | ((with_reducible apply end_int); rfl)
           | (with_reducible rfl)
    all_goals first
      | rfl
      | (exfalso; simp at *; omega)
      | (refine ⟨by omega, fun _ => by omega, entails_eq (nx := 32) (k := 0) (ns := []) (ks := [6, 1, 2]) [(0, 0)] rfl (by simp) (by kernel_rfl)⟩)
      | trace_state
  · obtain rfl : i = 1 := by omega
    rw [hC (by omega)]
    repeat' first
           | (with_reducible apply go_op)
           | (with_reducible apply go_next)
           | ((with_reducible (show evOp _ _ _ _ _ _)); first
             | ((with_reducible (show evOp _ (.move _) _ _ _ _)) ; first | ((with_reducible apply go_mv_int); rfl; rfl) | ((with_reducible apply go_mv_bool); rfl; rfl) | ((with_reducible apply go_mv_sl); rfl; rfl))
             | ((with_reducible apply go_as))
             | (((with_reducible apply go_cmp); rfl; rfl; rfl; rfl))
             | (((with_reducible apply go_len); rfl; rfl))
             | (((with_reducible apply go_pick); rfl; rfl; rfl)))
           | ((with_reducible (show evOps _ _ _ _ _ _)); first
             | (with_reducible apply go_nil)
             | ((with_reducible apply go_pass); rfl; rfl; rfl)
             | ((with_reducible apply go_pre); rfl)
             | (with_reducible apply go_pre_nil)
             | ((with_reducible apply go_suf); rfl)
             | (with_reducible apply go_suf_nil))
           | ((with_reducible (show evG _ _ _ _ _)); first
             | (with_reducible apply go_seq)
             | (with_reducible apply go_region)
             | ((with_reducible apply go_cond_f); rfl; rfl)
             | ((with_reducible apply go_order); kernel_rfl; rfl)
             | (with_reducible apply go_ret)
             | (with_reducible apply go_skipc)
             | (with_reducible apply go_exit))
           | (with_reducible apply go_kseq)
           | (with_reducible apply go_ksuf)
           | (with_reducible apply go_kblock_exit)
           | (with_reducible apply go_kseq_exit)
           | ((with_reducible apply end_int); rfl)
           | (with_reducible rfl)
    all_goals first
      | rfl
      | (exfalso; simp at *; omega)
      | trace_state
def bigC (c : Chan) : Prop := 40 < (c.name.size : Int) ∨ (6 < c.axis.length ∧ c.axis.length ≤ 20) ∨ 25 < c.axis.length ∨ (4 < c.regions.length ∧ c.regions.length ≤ 20) ∨ 25 < c.regions.length
instance (c : Chan) : Decidable (bigC c) := inferInstanceAs (Decidable (_ ∨ _))
def bigR (r : Reg) : Prop := (8 < r.corners.length ∧ r.corners.length ≤ 40) ∨ 45 < r.corners.length ∨ 40 < (r.name.size : Int)
instance (r : Reg) : Decidable (bigR r) := inferInstanceAs (Decidable (_ ∨ _))
def smallC (c : Chan) : Bool := !decide (bigC c) && c.regions.all fun r => !decide (bigR r)
theorem r_SmallC (c : Chan) (h1 : c.axis.length ≤ 9223372036854775807) (h2 : c.regions.length ≤ 9223372036854775807) (h3 : ∀ r ∈ c.regions, r.corners.length ≤ 9223372036854775807) : Contract Tryz.prog 7 [.agg (encChan c)] (.ret (.bool (smallC c))) := by
  by_cases hbig : bigC c
  · refine contract_of mix Tryz.func7 rfl rfl (by rw [Tryz.ntmps7]; exact Nat.le_of_ble_eq_true rfl) ?_; rw [Tryz.results7, Tryz.ntmps7]; simp only [argsE, Nat.reduceAdd]
    repeat' first
           | (with_reducible apply go_op)
           | (with_reducible apply go_next)
           | ((with_reducible (show evOp _ _ _ _ _ _)); first
             | ((with_reducible (show evOp _ (.move _) _ _ _ _)) ; first | ((with_reducible apply go_mv_int); rfl; rfl) | ((with_reducible apply go_mv_bool); rfl; rfl))
             | ((with_reducible apply go_as))
             | (((with_reducible apply go_load_own); rfl; rfl; rfl; rfl))
             | (((with_reducible apply go_fieldAddr_own); rfl; rfl; rfl))
             | (((with_reducible apply go_cmp); rfl; rfl; rfl; rfl))
             | ((with_reducible (show evOp _ (.call _) _ _ _ _)) ; first | ((with_reducible apply go_len); rfl; rfl) | ((with_reducible apply go_len_str); rfl; rfl))
             | (((with_reducible apply go_pick); rfl; rfl; rfl))
             | (((with_reducible apply go_bx_agg); rfl; rfl; (exact Nat.le_of_ble_eq_true rfl); rfl; rfl)))
           | ((with_reducible (show evOps _ _ _ _ _ _)); first
             | (with_reducible apply go_nil)
             | ((with_reducible apply go_run); rfl; rfl)
             | ((with_reducible apply go_pass); rfl; rfl; rfl)
             | ((with_reducible apply go_skip); rfl; rfl)
             | (((with_reducible apply go_guard); rfl) <;> (intro h; simp only [h, Bool.not_true, Bool.not_false]; (try with_reducible (refine ⟨rfl, ?_⟩)); try simp only [decide_eq_true_eq, decide_eq_false_iff_not, Bool.not_eq_true', Bool.not_eq_false', Bool.not_true, Bool.not_false] at h; try exact absurd trivial h)))
           | ((with_reducible (show evG _ _ _ _ _)); first
             | (with_reducible apply go_seq)
             | (with_reducible apply go_region)
             | ((with_reducible apply go_cond_t); rfl; rfl)
             | (((with_reducible apply go_cond); rfl) <;> (intro h; simp only [h]; try simp only [decide_eq_true_eq, decide_eq_false_iff_not, Bool.not_eq_true', Bool.not_eq_false', Bool.not_true, Bool.not_false] at h; try exact absurd trivial h))
             | (with_reducible apply go_ret)
             | (with_reducible apply go_skipc)
             | (with_reducible apply go_block))
           | (with_reducible apply go_kseq)
           | (with_reducible apply go_kseq_ret)
           | ((with_reducible apply end_bool); rfl)
    all_goals first
      | (simp only [smallC, hbig, decide_true, Bool.not_true, Bool.false_and]; done)
      | (exfalso; unfold bigC at hbig; omega)
      | trace_state
  refine contract_of mix Tryz.func7 rfl rfl (by rw [Tryz.ntmps7]; exact Nat.le_of_ble_eq_true rfl) ?_; rw [Tryz.results7, Tryz.ntmps7]; simp only [argsE, Nat.reduceAdd]
  refine go_seq ?_
  repeat' first
           | (with_reducible apply go_op)
           | (with_reducible apply go_next)
           | ((with_reducible (show evOp _ _ _ _ _ _)); first
             | (((with_reducible apply go_mv_bool); rfl; rfl))
             | ((with_reducible apply go_as))
             | (((with_reducible apply go_bx_agg); rfl; rfl; (exact Nat.le_of_ble_eq_true rfl); rfl; rfl)))
           | ((with_reducible (show evOps _ _ _ _ _ _)); first
             | (with_reducible apply go_nil))
           | ((with_reducible (show evG _ _ _ _ _)); first
             | (with_reducible apply go_region))
           | (with_reducible apply go_kseq)
  refine Or.inr ⟨⟨[(1, .op 0 0 0)], [(0, ⟨5, true, [encChan c]⟩)], 32, 89⟩, ?_, ?_⟩
  · repeat' first
           | (with_reducible apply go_op)
           | (with_reducible apply go_next)
           | ((with_reducible (show evOp _ _ _ _ _ _)); first
             | (((with_reducible apply go_mv_bool); rfl; rfl))
             | ((with_reducible apply go_as))
             | (((with_reducible apply go_load_own); rfl; rfl; rfl; rfl))
             | (((with_reducible apply go_fieldAddr_own); rfl; rfl; rfl))
             | (((with_reducible apply go_cmp); rfl; rfl; rfl; rfl))
             | ((with_reducible (show evOp _ (.call _) _ _ _ _)) ; first | ((with_reducible apply go_len); rfl; rfl) | ((with_reducible apply go_len_str); rfl; rfl))
             | (((with_reducible apply go_pick); rfl; rfl; rfl)))
           | ((with_reducible (show evOps _ _ _ _ _ _)); first
             | (with_reducible apply go_nil)
             | ((with_reducible apply go_run); rfl; rfl)
             | ((with_reducible apply go_pass); rfl; rfl; rfl)
             | ((with_reducible apply go_skip); rfl; rfl)
             | (((with_reducible apply go_guard); rfl) <;> (intro h; simp only [h, Bool.not_true, Bool.not_false]; (try with_reducible (refine ⟨rfl, ?_⟩)); try simp only [decide_eq_true_eq, decide_eq_false_iff_not, Bool.not_eq_true', Bool.not_eq_false', Bool.not_true, Bool.not_false] at h; try exact absurd trivial h)))
           | ((with_reducible (show evG _ _ _ _ _)); first
             | (with_reducible apply go_seq)
             | (with_reducible apply go_region)
             | ((with_reducible apply go_cond_t); rfl; rfl)
             | (((with_reducible apply go_cond); rfl) <;> (intro h; simp only [h]; try simp only [decide_eq_true_eq, decide_eq_false_iff_not, Bool.not_eq_true', Bool.not_eq_false', Bool.not_true, Bool.not_false] at h; try exact absurd trivial h))
             | (with_reducible apply go_ret)
             | (with_reducible apply go_skipc))
           | (with_reducible apply go_kseq)
           | (with_reducible apply go_kseq_ret)
           | ((with_reducible apply end_bool); rfl)
    all_goals first
      | (exfalso; unfold bigC at hbig; omega)
      | exact entails_eq (nx := 32) (k := 0) (ns := []) (ks := [1]) [(0, 0)] rfl (by simp) (by kernel_rfl)
      | trace_state
  repeat' first
           | (with_reducible apply go_op)
           | (with_reducible apply go_next)
           | ((with_reducible (show evOp _ _ _ _ _ _)); first
             | (((with_reducible apply go_mv_int); rfl; rfl))
             | ((with_reducible apply go_as)))
           | ((with_reducible (show evOps _ _ _ _ _ _)); first
             | (with_reducible apply go_nil))
           | ((with_reducible (show evG _ _ _ _ _)); first
             | (with_reducible apply go_seq)
             | (with_reducible apply go_region)
             | (with_reducible apply go_block))
           | (with_reducible apply go_kseq)
  refine go_count c.regions.length (fun i => ⟨[(3, .int .i64 i), (1, .op 0 0 0)], [(0, ⟨5, true, [encChan c]⟩)], 32, 89⟩) (fun i => ∀ j (hj : j < i) (hj' : j < c.regions.length), ¬ bigR c.regions[j]) (entails_eq (nx := 32) (k := 0) (ns := []) (ks := [3, 1]) [(0, 0)] rfl (by simp) (by kernel_rfl)) (by omega) ?_
  intro i hi hC
  by_cases hlt : i < c.regions.length
  · have hlr := h3 c.regions[i] (List.getElem_mem _)
    by_cases hR : bigR c.regions[i]
    · have hf := (List.all_eq_false.2 ⟨c.regions[i], List.getElem_mem _, by rw [decide_eq_true hR]; simp⟩ : (c.regions.all fun r => !decide (bigR r)) = false)
      repeat' first
           | (with_reducible apply go_op)
           | (with_reducible apply go_next)
           | ((with_reducible (show evOp _ _ _ _ _ _)); first
             | ((with_reducible (show evOp _ (.move _) _ _ _ _)) ; first | ((with_reducible apply go_mv_int); rfl; rfl) | ((with_reducible apply go_mv_bool); rfl; rfl))
             | ((with_reducible apply go_as))
             | ((with_reducible (show evOp _ (.load _ _) _ _ _ _)) ; first | ((with_reducible apply go_load); rfl; rfl; rfl) | ((with_reducible apply go_load_own); rfl; rfl; rfl; rfl))
             | ((with_reducible (show evOp _ (.fieldAddr _ _ _) _ _ _ _)) ; first | ((with_reducible apply go_fieldAddr); rfl; rfl) | ((with_reducible apply go_fieldAddr_own); rfl; rfl; rfl))
             | (((with_reducible apply go_index_nat); rfl; rfl; (with_reducible rfl); (intro; rfl); rfl; omega; (intro hlt)))
             | ((with_reducible (show evOp _ (.binOp _ _ _ _ _) _ _ _ _)) ; first | ((with_reducible apply go_cmp); rfl; rfl; rfl; rfl) | ((with_reducible apply go_add); rfl; rfl; rfl; omega))
             | ((with_reducible (show evOp _ (.call _) _ _ _ _)) ; first | ((with_reducible apply go_len); rfl; rfl) | ((with_reducible apply go_len_str); rfl; rfl))
             | (((with_reducible apply go_pick); rfl; rfl; rfl)))
           | ((with_reducible (show evOps _ _ _ _ _ _)); first
             | (with_reducible apply go_nil)
             | ((with_reducible apply go_run); rfl; rfl)
             | ((with_reducible apply go_pass); rfl; rfl; rfl)
             | (((with_reducible apply go_guard); rfl) <;> (intro h; simp only [h, Bool.not_true, Bool.not_false]; (try with_reducible (refine ⟨rfl, ?_⟩)); try simp only [decide_eq_true_eq, decide_eq_false_iff_not, Bool.not_eq_true', Bool.not_eq_false', Bool.not_true, Bool.not_false] at h; try exact absurd trivial h)))
           | ((with_reducible (show evG _ _ _ _ _)); first
             | (with_reducible apply go_seq)
             | (with_reducible apply go_region)
             | ((with_reducible apply go_cond_t); rfl; rfl)
             | (((with_reducible apply go_cond); rfl) <;> (intro h; simp only [h]; try simp only [decide_eq_true_eq, decide_eq_false_iff_not, Bool.not_eq_true', Bool.not_eq_false', Bool.not_true, Bool.not_false] at h; try exact absurd trivial h))
             | (with_reducible apply go_ret)
             | (with_reducible apply go_skipc)
             | (with_reducible apply go_block)
             | (with_reducible apply go_exit))
           | (with_reducible apply go_kseq)
           | (with_reducible apply go_kseq_ret)
           | (with_reducible apply go_kblock)
           | (with_reducible apply go_kblock_ret)
           | (with_reducible apply go_kblock_exit)
           | (with_reducible apply go_kseq_exit)
           | ((with_reducible apply end_bool); rfl)
      all_goals first
        | exact absurd hlt (by omega)
        | (unfold smallC; rw [hf, Bool.and_false]; done)
        | (exfalso; unfold bigR at hR; omega)
        | trace_state
    · repeat' first
           | (with_reducible apply go_op)
           | (with_reducible apply go_next)
           | ((with_reducible (show evOp _ _ _ _ _ _)); first
             | ((with_reducible (show evOp _ (.move _) _ _ _ _)) ; first | ((with_reducible apply go_mv_int); rfl; rfl) | ((with_reducible apply go_mv_bool); rfl; rfl))
             | ((with_reducible apply go_as))
             | ((with_reducible (show evOp _ (.load _ _) _ _ _ _)) ; first | ((with_reducible apply go_load); rfl; rfl; rfl) | ((with_reducible apply go_load_own); rfl; rfl; rfl; rfl))
             | ((with_reducible (show evOp _ (.fieldAddr _ _ _) _ _ _ _)) ; first | ((with_reducible apply go_fieldAddr); rfl; rfl) | ((with_reducible apply go_fieldAddr_own); rfl; rfl; rfl))
             | (((with_reducible apply go_index_nat); rfl; rfl; (with_reducible rfl); (intro; rfl); rfl; omega; (intro hlt)))
             | ((with_reducible (show evOp _ (.binOp _ _ _ _ _) _ _ _ _)) ; first | ((with_reducible apply go_cmp); rfl; rfl; rfl; rfl) | ((with_reducible apply go_add); rfl; rfl; rfl; omega))
             | ((with_reducible (show evOp _ (.call _) _ _ _ _)) ; first | ((with_reducible apply go_len); rfl; rfl) | ((with_reducible apply go_len_str); rfl; rfl))
             | (((with_reducible apply go_pick); rfl; rfl; rfl)))
           | ((with_reducible (show evOps _ _ _ _ _ _)); first
             | (with_reducible apply go_nil)
             | ((with_reducible apply go_run); rfl; rfl)
             | ((with_reducible apply go_pass); rfl; rfl; rfl)
             | (((with_reducible apply go_guard); rfl) <;> (intro h; simp only [h, Bool.not_true, Bool.not_false]; (try with_reducible (refine ⟨rfl, ?_⟩)); try simp only [decide_eq_true_eq, decide_eq_false_iff_not, Bool.not_eq_true', Bool.not_eq_false', Bool.not_true, Bool.not_false] at h; try exact absurd trivial h)))
           | ((with_reducible (show evG _ _ _ _ _)); first
             | (with_reducible apply go_seq)
             | (with_reducible apply go_region)
             | ((with_reducible apply go_cond_t); rfl; rfl)
             | (((with_reducible apply go_cond); rfl) <;> (intro h; simp only [h]; try simp only [decide_eq_true_eq, decide_eq_false_iff_not, Bool.not_eq_true', Bool.not_eq_false', Bool.not_true, Bool.not_false] at h; try exact absurd trivial h))
             | (with_reducible apply go_ret)
             | (with_reducible apply go_skipc)
             | (with_reducible apply go_block)
             | (with_reducible apply go_exit))
           | (with_reducible apply go_kseq)
           | (with_reducible apply go_kseq_ret)
           | (with_reducible apply go_kblock)
           | (with_reducible apply go_kblock_ret)
           | (with_reducible apply go_kblock_exit)
           | (with_reducible apply go_kseq_exit)
           | ((with_reducible apply end_bool); rfl)
      all_goals first
        | exact absurd hlt (by omega)
        | (exfalso; unfold bigR at hR; omega)
        | (refine ⟨by omega, fun j hj hj' => ?_, entails_eq (nx := 32) (k := 0) (ns := []) (ks := [3, 1]) [(0, 0)] rfl (by simp) (by kernel_rfl)⟩
           rcases Nat.lt_succ_iff_lt_or_eq.1 hj with h' | rfl
           · exact hC j h' hj'
           · exact hR)
        | trace_state
  · repeat' first
           | (with_reducible apply go_op)
           | (with_reducible apply go_next)
           | ((with_reducible (show evOp _ _ _ _ _ _)); first
             | ((with_reducible (show evOp _ (.move _) _ _ _ _)) ; first | ((with_reducible apply go_mv_int); rfl; rfl) | ((with_reducible apply go_mv_bool); rfl; rfl))
             | ((with_reducible apply go_as))
             | ((with_reducible (show evOp _ (.load _ _) _ _ _ _)) ; first | ((with_reducible apply go_load); rfl; rfl; rfl) | ((with_reducible apply go_load_own); rfl; rfl; rfl; rfl))
             | ((with_reducible (show evOp _ (.fieldAddr _ _ _) _ _ _ _)) ; first | ((with_reducible apply go_fieldAddr); rfl; rfl) | ((with_reducible apply go_fieldAddr_own); rfl; rfl; rfl))
             | (((with_reducible apply go_index_nat); rfl; rfl; (with_reducible rfl); (intro; rfl); rfl; omega; (intro hlt)))
             | ((with_reducible (show evOp _ (.binOp _ _ _ _ _) _ _ _ _)) ; first | ((with_reducible apply go_cmp); rfl; rfl; rfl; rfl) | ((with_reducible apply go_add); rfl; rfl; rfl; omega))
             | ((with_reducible (show evOp _ (.call _) _ _ _ _)) ; first | ((with_reducible apply go_len); rfl; rfl) | ((with_reducible apply go_len_str); rfl; rfl))
             | (((with_reducible apply go_pick); rfl; rfl; rfl)))
           | ((with_reducible (show evOps _ _ _ _ _ _)); first
             | (with_reducible apply go_nil)
             | ((with_reducible apply go_run); rfl; rfl)
             | ((with_reducible apply go_pass); rfl; rfl; rfl)
             | (((with_reducible apply go_guard); rfl) <;> (intro h; simp only [h, Bool.not_true, Bool.not_false]; (try with_reducible (refine ⟨rfl, ?_⟩)); try simp only [decide_eq_true_eq, decide_eq_false_iff_not, Bool.not_eq_true', Bool.not_eq_false', Bool.not_true, Bool.not_false] at h; try exact absurd trivial h)))
           | ((with_reducible (show evG _ _ _ _ _)); first
             | (with_reducible apply go_seq)
             | (with_reducible apply go_region)
             | ((with_reducible apply go_cond_t); rfl; rfl)
             | (((with_reducible apply go_cond); rfl) <;> (intro h; simp only [h]; try simp only [decide_eq_true_eq, decide_eq_false_iff_not, Bool.not_eq_true', Bool.not_eq_false', Bool.not_true, Bool.not_false] at h; try exact absurd trivial h))
             | (with_reducible apply go_ret)
             | (with_reducible apply go_skipc)
             | (with_reducible apply go_block)
             | (with_reducible apply go_exit))
           | (with_reducible apply go_kseq)
           | (with_reducible apply go_kseq_ret)
           | (with_reducible apply go_kblock)
           | (with_reducible apply go_kblock_ret)
           | (with_reducible apply go_kblock_exit)
           | (with_reducible apply go_kseq_exit)
           | ((with_reducible apply end_bool); rfl)
    all_goals first
      | exact absurd hlt (by omega)
      | (unfold smallC
         rw [decide_eq_false hbig, List.all_eq_true.2 fun r hr => ?_]
         · rfl
         obtain ⟨j, hj, rfl⟩ := List.mem_iff_getElem.1 hr
         rw [decide_eq_false (hC j (by omega) hj)]
         rfl)
      | trace_state
end Go.Pv.Soil

open Go Go.Proofs Go.Pv
set_option maxHeartbeats 4000000
set_option maxRecDepth 100000
set_option linter.unusedVariables false
set_option linter.unusedSimpArgs false
namespace Go.Pv.Soil
def fewG (g : Grid) : Bool := decide (((g.levels.length : Int) ≤ 40 ∧ ((g.cols ≤ 40 ∧ g.rows ≤ 40) ∨ (g.levels.length : Int) ≠ IntKind.wrap .i64 (g.cols * g.rows))) ∨ ((g.levels.length : Int) ≤ 1100 ∧ gridE g ≠ 0))
def reachC : Chan := ⟨"Reach".toUTF8, [⟨0, 0, 400, -1000, 3⟩, ⟨2000, 0, 400, -1000, 3⟩], 30, 0, []⟩
def shallowG : Grid := ⟨0, -200, 400, 5, 1, [-900, -950, -800, -1010, -990]⟩
theorem reach_ok : OkChan reachC := chanR_ok (by decide +kernel)
theorem shallow_ok : gridE shallowG = 0 := by decide +kernel
theorem setup0 : SetUp reachC shallowG 17 := ⟨reach_ok, shallow_ok, by decide, by omega⟩
theorem h_first : Contract Tryz.prog 4 [.agg (encChan reachC), .agg (encGrid shallowG), .int .i64 17] (.ret (.bool true)) := h_settled reachC shallowG 17 setup0 (by decide)
theorem r_Few1 (g : Grid) (hl : g.levels.length < 1000000000000) : Contract Tryz.prog 8 [.agg (encGrid g)] (.ret (.bool (fewG g))) := by
  have y1 := c28 g hl
  unfold fewG
  generalize gridE g = e at *
  refine contract_of mix Tryz.func8 rfl rfl (by rw [Tryz.ntmps8]; exact Nat.le_of_ble_eq_true rfl) ?_; rw [Tryz.results8, Tryz.ntmps8]; simp only [argsE, Nat.reduceAdd]
  repeat' first
           | (with_reducible apply go_op)
           | (with_reducible apply go_next)
           | ((with_reducible (show evOp _ _ _ _ _ _)); first
             | (((with_reducible apply go_mv_bool); rfl; rfl))
             | ((with_reducible apply go_as))
             | ((with_reducible (show evOp _ (.load _ _) _ _ _ _)) ; first | ((with_reducible apply go_ld_agg); rfl; rfl; rfl; rfl) | ((with_reducible apply go_load_own); rfl; rfl; rfl; rfl))
             | (((with_reducible apply go_fieldAddr_own); rfl; rfl; rfl))
             | ((with_reducible (show evOp _ (.binOp _ _ _ _ _) _ _ _ _)) ; first | ((with_reducible apply go_cmp); rfl; rfl; rfl; rfl) | ((with_reducible apply go_bin); rfl; rfl))
             | ((with_reducible (show evOp _ (.call _) _ _ _ _)) ; first | ((with_reducible apply go_len); rfl; rfl) | ((with_reducible apply go_fn_int); rfl; (exact y1); rfl))
             | (((with_reducible apply go_pick); rfl; rfl; rfl))
             | (((with_reducible apply go_bx_agg); rfl; rfl; (exact Nat.le_of_ble_eq_true rfl); rfl; rfl)))
           | ((with_reducible (show evOps _ _ _ _ _ _)); first
             | (with_reducible apply go_nil)
             | ((with_reducible apply go_run); rfl; rfl)
             | ((with_reducible apply go_pass); rfl; rfl; rfl)
             | ((with_reducible apply go_skip); rfl; rfl)
             | (((with_reducible apply go_guard); rfl) <;> (intro h; simp only [h, Bool.not_true, Bool.not_false]; (try with_reducible (refine ⟨rfl, ?_⟩)); try simp only [decide_eq_true_eq, decide_eq_false_iff_not, Bool.not_eq_true', Bool.not_eq_false', Bool.not_true, Bool.not_false] at h; try exact absurd trivial h)))
           | ((with_reducible (show evG _ _ _ _ _)); first
             | (with_reducible apply go_seq)
             | (with_reducible apply go_region)
             | (with_reducible apply go_ret))
           | (with_reducible apply go_kseq)
           | ((with_reducible apply end_bool); rfl)
  all_goals
    rw [Bool.eq_iff_iff, decide_eq_true_eq]
    simp only [Bool.not_eq_true', decide_eq_false_iff_not, true_iff, Bool.false_eq_true, false_iff]
    omega
theorem r_Few (g : Grid) (hl : g.levels.length ≤ 9223372036854775807) : Contract Tryz.prog 8 [.agg (encGrid g)] (.ret (.bool (fewG g))) := by
  by_cases h1 : g.levels.length < 1000000000000
  · exact r_Few1 g h1
  unfold fewG
  refine contract_of mix Tryz.func8 rfl rfl (by rw [Tryz.ntmps8]; exact Nat.le_of_ble_eq_true rfl) ?_; rw [Tryz.results8, Tryz.ntmps8]; simp only [argsE, Nat.reduceAdd]
  repeat' first
           | (with_reducible apply go_op)
           | (with_reducible apply go_next)
           | ((with_reducible (show evOp _ _ _ _ _ _)); first
             | (((with_reducible apply go_mv_bool); rfl; rfl))
             | ((with_reducible apply go_as))
             | ((with_reducible (show evOp _ (.load _ _) _ _ _ _)) ; first | ((with_reducible apply go_ld_agg); rfl; rfl; rfl; rfl) | ((with_reducible apply go_load_own); rfl; rfl; rfl; rfl))
             | (((with_reducible apply go_fieldAddr_own); rfl; rfl; rfl))
             | ((with_reducible (show evOp _ (.binOp _ _ _ _ _) _ _ _ _)) ; first | ((with_reducible apply go_cmp); rfl; rfl; rfl; rfl) | ((with_reducible apply go_mul); rfl; rfl; rfl; omega))
             | (((with_reducible apply go_len); rfl; rfl))
             | (((with_reducible apply go_pick); rfl; rfl; rfl))
             | (((with_reducible apply go_bx_agg); rfl; rfl; (exact Nat.le_of_ble_eq_true rfl); rfl; rfl)))
           | ((with_reducible (show evOps _ _ _ _ _ _)); first
             | (with_reducible apply go_nil)
             | ((with_reducible apply go_run); rfl; rfl)
             | ((with_reducible apply go_pass); rfl; rfl; rfl)
             | ((with_reducible apply go_skip); rfl; rfl)
             | (((with_reducible apply go_guard); rfl) <;> (intro h; simp only [h, Bool.not_true, Bool.not_false]; (try with_reducible (refine ⟨rfl, ?_⟩)); try simp only [decide_eq_true_eq, decide_eq_false_iff_not, Bool.not_eq_true', Bool.not_eq_false', Bool.not_true, Bool.not_false] at h; try exact absurd trivial h)))
           | ((with_reducible (show evG _ _ _ _ _)); first
             | (with_reducible apply go_seq)
             | (with_reducible apply go_region)
             | (with_reducible apply go_ret))
           | (with_reducible apply go_kseq)
           | ((with_reducible apply end_bool); rfl)
  all_goals first
    | (exfalso; omega)
    | (rw [Bool.eq_iff_iff, decide_eq_true_eq]
       simp only [Bool.not_eq_true', decide_eq_false_iff_not, true_iff, Bool.false_eq_true, false_iff]
       omega)
    | trace_state
section
variable {P : Program} {K : X → St → Prop} {env : Env} {hp : Hp} {nx n id : Nat} {s : Tmp} {x y u v z5 : Operand} {t : TypeId}
theorem go_bs5_int {e : Nat} {z : D} {k k2 k3 k4 k5 : IntKind} {a b c d f : Int} [hs : TSlice P t e 1] [hz : TZero P e z] (h1 : evalD env x = .int k a) (h2 : evalD env y = .int k2 b) (h3 : evalD env u = .int k3 c) (h4 : evalD env v = .int k4 d) (h5 : evalD env z5 = .int k5 f) (hzl : (cellsD z).length = 1) (hd : okDst n (some s) = true)
    (hk : K .normal ⟨(s, .os id 0 5) :: env, (id, ⟨1, true, [[.int k a], [.int k2 b], [.int k3 c], [.int k4 d], [.int k5 f]]⟩) :: hp, nx, n⟩) : evOp P (.buildSlice t 5 #[(0, x), (1, y), (2, u), (3, v), (4, z5)]) id (some s) ⟨env, hp, nx, n⟩ K := by
  have ho : op1 P (evalD env) (.buildSlice t 5 #[(0, x), (1, y), (2, u), (3, v), (4, z5)]) = some (false, ⟨1, true, [[.int k a], [.int k2 b], [.int k3 c], [.int k4 d], [.int k5 f]]⟩) := by
    simp only [op1, hs.u, hz.h, Option.bind_some]
    rw [if_neg (by decide), if_pos ⟨hz.k, by rw [hzl, hs.c], by rw [hs.c]; decide, by rw [hs.c]; decide⟩]
    simp only [List.map_cons, List.map_nil, h1, h2, h3, h4, h5, hs.c]
    rfl
  unfold evOp
  simp only [op0, ho]
  exact ⟨hd, hk⟩
end
theorem h_reach : Contract Tryz.prog 5 [] (.ret (.agg (encChan reachC))) := by
  refine contract_of mix Tryz.func5 rfl rfl (by rw [Tryz.ntmps5]; exact Nat.le_of_ble_eq_true rfl) ?_; rw [Tryz.results5, Tryz.ntmps5]; simp only [argsE, Nat.reduceAdd]
  repeat' first
           | (with_reducible apply go_op)
           | (with_reducible apply go_next)
           | ((with_reducible (show evOp _ _ _ _ _ _)); first
             | (((with_reducible apply go_st_agg); rfl; rfl; rfl; rfl; rfl; rfl; rfl))
             | (((with_reducible apply go_build); rfl; rfl))
             | (((with_reducible apply go_alloc); rfl; rfl; rfl))
             | (((with_reducible apply go_bs2_agg); rfl; rfl; rfl; rfl; rfl; rfl; rfl; rfl)))
           | ((with_reducible (show evOps _ _ _ _ _ _)); first
             | (with_reducible apply go_nil))
           | ((with_reducible (show evG _ _ _ _ _)); first
             | (with_reducible apply go_seq)
             | (with_reducible apply go_region)
             | (with_reducible apply go_ret))
           | (with_reducible apply go_kseq)
  exact finK_ret (.inl ⟨[.pure], [.agg [.str reachC.name, .os 96 0 2, .int .i64 30, .int .i64 0, .nilsl]], [.agg (encChan reachC)], by kernel_rfl, by simp [frsOf], ⟨by show pur _ 64 _ = some _; kernel_rfl, trivial⟩, rfl, fun _ => rfl⟩)
theorem h_shallow : Contract Tryz.prog 6 [] (.ret (.agg (encGrid shallowG))) := by
  refine contract_of mix Tryz.func6 rfl rfl (by rw [Tryz.ntmps6]; exact Nat.le_of_ble_eq_true rfl) ?_; rw [Tryz.results6, Tryz.ntmps6]; simp only [argsE, Nat.reduceAdd]
  repeat' first
           | (with_reducible apply go_op)
           | (with_reducible apply go_next)
           | ((with_reducible (show evOp _ _ _ _ _ _)); first
             | (((with_reducible apply go_alloc); rfl; rfl; rfl)))
           | ((with_reducible (show evOps _ _ _ _ _ _)); first
             | (with_reducible apply go_nil))
           | ((with_reducible (show evG _ _ _ _ _)); first
             | (with_reducible apply go_seq)
             | (with_reducible apply go_region))
           | (with_reducible apply go_kseq)
  refine go_bs5_int rfl rfl rfl rfl rfl rfl rfl ?_
  repeat' first
           | (with_reducible apply go_op)
           | (with_reducible apply go_next)
           | ((with_reducible (show evOp _ _ _ _ _ _)); first
             | (((with_reducible apply go_st_agg); rfl; rfl; rfl; rfl; rfl; rfl; rfl))
             | (((with_reducible apply go_build); rfl; rfl)))
           | ((with_reducible (show evOps _ _ _ _ _ _)); first
             | (with_reducible apply go_nil))
           | ((with_reducible (show evG _ _ _ _ _)); first
             | (with_reducible apply go_ret))
           | (with_reducible apply go_kseq)
  exact finK_ret (.inl ⟨[.pure], [.agg [.int .i64 0, .int .i64 (-200), .int .i64 400, .int .i64 5, .int .i64 1, .os 32 0 5]], [.agg (encGrid shallowG)], by kernel_rfl, by simp [frsOf], ⟨by show pur _ 64 _ = some _; kernel_rfl, trivial⟩, rfl, fun _ => rfl⟩)
end Go.Pv.Soil

open Go Go.Proofs Go.Pv
set_option maxHeartbeats 4000000
set_option maxRecDepth 100000
set_option linter.unusedVariables false
set_option linter.unusedSimpArgs false
namespace Go.Pv.Soil
instance tin16 : TInt Tryz.prog 29 .u16 := ⟨by kernel_rfl⟩
theorem smallC_bd {c : Chan} (h : smallC c = true) : c.axis.length ≤ 25 ∧ c.regions.length ≤ 25 := by
  unfold smallC at h
  rw [Bool.and_eq_true] at h
  have hb : ¬ bigC c := by simpa using h.1
  unfold bigC at hb
  omega
theorem c_settledLaw (c : Chan) (g : Grid) (m : Int) (hm : 0 ≤ m ∧ m ≤ 65535) (h1 : c.axis.length ≤ 9223372036854775807) (h2 : c.regions.length ≤ 9223372036854775807) (h3 : ∀ r ∈ c.regions, r.corners.length ≤ 9223372036854775807) (h4 : g.levels.length ≤ 9223372036854775807) :
    Contract Tryz.prog 3 [.agg (encChan c), .agg (encGrid g), .int .u16 m] (.ret (.bool true)) := by
  have g0 := h_first
  have g1 := r_SmallC c h1 h2 h3
  have g2 := r_Few g h4
  by_cases hs : smallC c = true
  rotate_left
  · have hs' : smallC c = false := by simpa using hs
    rw [hs'] at g1
    refine contract_of mix Tryz.func3 rfl rfl (by rw [Tryz.ntmps3]; exact Nat.le_of_ble_eq_true rfl) ?_; rw [Tryz.results3, Tryz.ntmps3]; simp only [argsE, Nat.reduceAdd]
    repeat' first
           | (with_reducible apply go_op)
           | (with_reducible apply go_next)
           | ((with_reducible (show evOp _ _ _ _ _ _)); first
             | (((with_reducible apply go_mv_bool); rfl; rfl))
             | ((with_reducible apply go_as))
             | (((with_reducible apply go_ld_agg); rfl; rfl; rfl; rfl))
             | ((with_reducible (show evOp _ (.call _) _ _ _ _)) ; first | ((with_reducible apply go_fn_pr); rfl; rfl; (exact h_reach); rfl; (exact Nat.le_of_ble_eq_true rfl); rfl) | ((with_reducible apply go_fn_pr); rfl; rfl; (exact h_shallow); rfl; (exact Nat.le_of_ble_eq_true rfl); rfl) | ((with_reducible apply go_fn_bool); rfl; (exact g0); rfl) | ((with_reducible apply go_fn_bool); rfl; (exact g1); rfl))
             | (((with_reducible apply go_not); rfl; rfl))
             | (((with_reducible apply go_pick); rfl; rfl; rfl))
             | (((with_reducible apply go_bx_agg); rfl; rfl; (exact Nat.le_of_ble_eq_true rfl); rfl; rfl)))
           | ((with_reducible (show evOps _ _ _ _ _ _)); first
             | (with_reducible apply go_nil)
             | ((with_reducible apply go_pass); rfl; rfl; rfl))
           | ((with_reducible (show evG _ _ _ _ _)); first
             | (with_reducible apply go_seq)
             | (with_reducible apply go_region)
             | ((with_reducible apply go_cond_t); rfl; rfl)
             | ((with_reducible apply go_cond_f); rfl; rfl)
             | (with_reducible apply go_ret)
             | (with_reducible apply go_skipc))
           | (with_reducible apply go_kseq)
           | (with_reducible apply go_kseq_ret)
           | ((with_reducible apply end_bool); rfl)
           | (with_reducible rfl)
    all_goals first | rfl | trace_state
  rw [hs] at g1
  obtain ⟨b1, b2⟩ := smallC_bd hs
  by_cases hf : fewG g = true
  rotate_left
  · have hf' : fewG g = false := by simpa using hf
    rw [hf'] at g2
    refine contract_of mix Tryz.func3 rfl rfl (by rw [Tryz.ntmps3]; exact Nat.le_of_ble_eq_true rfl) ?_; rw [Tryz.results3, Tryz.ntmps3]; simp only [argsE, Nat.reduceAdd]
    repeat' first
           | (with_reducible apply go_op)
           | (with_reducible apply go_next)
           | ((with_reducible (show evOp _ _ _ _ _ _)); first
             | (((with_reducible apply go_mv_bool); rfl; rfl))
             | ((with_reducible apply go_as))
             | (((with_reducible apply go_ld_agg); rfl; rfl; rfl; rfl))
             | ((with_reducible (show evOp _ (.call _) _ _ _ _)) ; first | ((with_reducible apply go_fn_pr); rfl; rfl; (exact h_reach); rfl; (exact Nat.le_of_ble_eq_true rfl); rfl) | ((with_reducible apply go_fn_pr); rfl; rfl; (exact h_shallow); rfl; (exact Nat.le_of_ble_eq_true rfl); rfl) | ((with_reducible apply go_fn_bool); rfl; (exact g0); rfl) | ((with_reducible apply go_fn_bool); rfl; (exact g1); rfl) | ((with_reducible apply go_fn_bool); rfl; (exact g2); rfl))
             | (((with_reducible apply go_not); rfl; rfl))
             | (((with_reducible apply go_pick); rfl; rfl; rfl))
             | (((with_reducible apply go_bx_agg); rfl; rfl; (exact Nat.le_of_ble_eq_true rfl); rfl; rfl)))
           | ((with_reducible (show evOps _ _ _ _ _ _)); first
             | (with_reducible apply go_nil)
             | ((with_reducible apply go_run); rfl; rfl)
             | ((with_reducible apply go_pass); rfl; rfl; rfl))
           | ((with_reducible (show evG _ _ _ _ _)); first
             | (with_reducible apply go_seq)
             | (with_reducible apply go_region)
             | ((with_reducible apply go_cond_t); rfl; rfl)
             | ((with_reducible apply go_cond_f); rfl; rfl)
             | (with_reducible apply go_ret)
             | (with_reducible apply go_skipc))
           | (with_reducible apply go_kseq)
           | (with_reducible apply go_kseq_ret)
           | ((with_reducible apply end_bool); rfl)
           | (with_reducible rfl)
    all_goals first | rfl | trace_state
  rw [hf] at g2
  have hf' := of_decide_eq_true hf
  have g3 := r_With c g (by omega) (by omega) (by omega)
  by_cases hw : withE c g = 0
  rotate_left
  · generalize withE c g = q at *
    refine contract_of mix Tryz.func3 rfl rfl (by rw [Tryz.ntmps3]; exact Nat.le_of_ble_eq_true rfl) ?_; rw [Tryz.results3, Tryz.ntmps3]; simp only [argsE, Nat.reduceAdd]
    repeat' first
           | (with_reducible apply go_op)
           | (with_reducible apply go_next)
           | ((with_reducible (show evOp _ _ _ _ _ _)); first
             | ((with_reducible (show evOp _ (.move _) _ _ _ _)) ; first | ((with_reducible apply go_mv_int); rfl; rfl) | ((with_reducible apply go_mv_bool); rfl; rfl))
             | ((with_reducible apply go_as))
             | (((with_reducible apply go_ld_agg); rfl; rfl; rfl; rfl))
             | (((with_reducible apply go_cmp); rfl; rfl; rfl; rfl))
             | ((with_reducible (show evOp _ (.call _) _ _ _ _)) ; first | ((with_reducible apply go_fn_pr); rfl; rfl; (exact h_reach); rfl; (exact Nat.le_of_ble_eq_true rfl); rfl) | ((with_reducible apply go_fn_pr); rfl; rfl; (exact h_shallow); rfl; (exact Nat.le_of_ble_eq_true rfl); rfl) | ((with_reducible apply go_fn_bool); rfl; (exact g0); rfl) | ((with_reducible apply go_fn_bool); rfl; (exact g1); rfl) | ((with_reducible apply go_fn_bool); rfl; (exact g2); rfl) | ((with_reducible apply go_fn_int); (exact purL_os2 rfl rfl (by simp) rfl); (exact g3); rfl))
             | (((with_reducible apply go_not); rfl; rfl))
             | (((with_reducible apply go_pick); rfl; rfl; rfl))
             | (((with_reducible apply go_bx_agg); rfl; rfl; (exact Nat.le_of_ble_eq_true rfl); rfl; rfl))
             | (((with_reducible apply go_bs1_agg); rfl; rfl; rfl; rfl; rfl; rfl)))
           | ((with_reducible (show evOps _ _ _ _ _ _)); first
             | (with_reducible apply go_nil)
             | ((with_reducible apply go_run); rfl; rfl))
           | ((with_reducible (show evG _ _ _ _ _)); first
             | (with_reducible apply go_seq)
             | (with_reducible apply go_region)
             | ((with_reducible apply go_cond_f); rfl; rfl)
             | (((with_reducible apply go_cond); rfl) <;> (intro h; simp only [h]; try simp only [decide_eq_true_eq, decide_eq_false_iff_not, Bool.not_eq_true', Bool.not_eq_false', Bool.not_true, Bool.not_false] at h; try exact absurd trivial h))
             | (with_reducible apply go_ret)
             | (with_reducible apply go_skipc)
             | (with_reducible apply go_block))
           | (with_reducible apply go_kseq)
           | (with_reducible apply go_kseq_ret)
           | ((with_reducible apply end_bool); rfl)
           | (with_reducible rfl)
    all_goals first | rfl | (exfalso; omega) | trace_state
  rw [hw] at g3
  unfold withE at hw
  split at hw
  · rename_i hne; exact absurd hw hne
  rename_i hc0
  have hok := chanR_ok (Classical.not_not.1 hc0)
  have h40 : g.levels.length ≤ 40 := by omega
  refine contract_of mix Tryz.func3 rfl rfl (by rw [Tryz.ntmps3]; exact Nat.le_of_ble_eq_true rfl) ?_; rw [Tryz.results3, Tryz.ntmps3]; simp only [argsE, Nat.reduceAdd]
  repeat' first
           | (with_reducible apply go_op)
           | (with_reducible apply go_next)
           | ((with_reducible (show evOp _ _ _ _ _ _)); first
             | ((with_reducible (show evOp _ (.move _) _ _ _ _)) ; first | ((with_reducible apply go_mv_int); rfl; rfl) | ((with_reducible apply go_mv_bool); rfl; rfl))
             | ((with_reducible apply go_as))
             | (((with_reducible apply go_ld_agg); rfl; rfl; rfl; rfl))
             | (((with_reducible apply go_cmp); rfl; rfl; rfl; rfl))
             | ((with_reducible (show evOp _ (.call _) _ _ _ _)) ; first | ((with_reducible apply go_fn_pr); rfl; rfl; (exact h_reach); rfl; (exact Nat.le_of_ble_eq_true rfl); rfl) | ((with_reducible apply go_fn_pr); rfl; rfl; (exact h_shallow); rfl; (exact Nat.le_of_ble_eq_true rfl); rfl) | ((with_reducible apply go_fn_bool); rfl; (exact g0); rfl) | ((with_reducible apply go_fn_bool); rfl; (exact g1); rfl) | ((with_reducible apply go_fn_bool); rfl; (exact g2); rfl) | ((with_reducible apply go_fn_int); (exact purL_os2 rfl rfl (by simp) rfl); (exact g3); rfl))
             | (((with_reducible apply go_not); rfl; rfl))
             | (((with_reducible apply go_pick); rfl; rfl; rfl))
             | (((with_reducible apply go_bx_agg); rfl; rfl; (exact Nat.le_of_ble_eq_true rfl); rfl; rfl))
             | (((with_reducible apply go_bs1_agg); rfl; rfl; rfl; rfl; rfl; rfl)))
           | ((with_reducible (show evOps _ _ _ _ _ _)); first
             | (with_reducible apply go_nil)
             | ((with_reducible apply go_run); rfl; rfl))
           | ((with_reducible (show evG _ _ _ _ _)); first
             | (with_reducible apply go_seq)
             | (with_reducible apply go_region)
             | ((with_reducible apply go_cond_f); rfl; rfl)
             | (with_reducible apply go_skipc)
             | (with_reducible apply go_block))
           | (with_reducible apply go_kseq)
  all_goals try (exfalso; simp at *; done)
  refine go_count c.axis.length (fun i => ⟨[(7, .int .i64 i), (3, .op 0 0 0), (4, .op 1 0 0), (2, .int .u16 m)], [(0, ⟨5, true, [encChan c]⟩), (1, ⟨6, true, [encGrid g]⟩)], 32, 47⟩) (fun i => ∀ j (hj : j < i) (hj' : j < c.axis.length), -10000 ≤ c.axis[j].level) (entails_eq (nx := 32) (k := 1) (ns := []) (ks := [7, 3, 4, 2]) [(0, 0), (32, 1)] rfl (by simp) (by kernel_rfl)) (by omega) ?_
  intro i hi hC
  by_cases hlt : i < c.axis.length
  · repeat' first
           | (with_reducible apply go_op)
           | (with_reducible apply go_next)
           | ((with_reducible (show evOp _ _ _ _ _ _)); first
             | ((with_reducible (show evOp _ (.move _) _ _ _ _)) ; first | ((with_reducible apply go_mv_int); rfl; rfl) | ((with_reducible apply go_mv_bool); rfl; rfl))
             | ((with_reducible apply go_as))
             | ((with_reducible (show evOp _ (.load _ _) _ _ _ _)) ; first | ((with_reducible apply go_ld_agg); rfl; rfl; rfl; rfl) | ((with_reducible apply go_load); rfl; rfl; rfl) | ((with_reducible apply go_load_own); rfl; rfl; rfl; rfl))
             | ((with_reducible (show evOp _ (.fieldAddr _ _ _) _ _ _ _)) ; first | ((with_reducible apply go_fieldAddr); rfl; rfl) | ((with_reducible apply go_fieldAddr_own); rfl; rfl; rfl))
             | (((with_reducible apply go_index_nat); rfl; rfl; (with_reducible rfl); (intro; rfl); rfl; omega; (intro hlt)))
             | ((with_reducible (show evOp _ (.binOp _ _ _ _ _) _ _ _ _)) ; first | ((with_reducible apply go_cmp); rfl; rfl; rfl; rfl) | ((with_reducible apply go_add); rfl; rfl; rfl; omega) | ((with_reducible apply go_rem_pos); rfl; rfl; rfl; omega))
             | (((with_reducible apply go_len); rfl; rfl))
             | (((with_reducible apply go_conv64); rfl; rfl; omega)))
           | ((with_reducible (show evOps _ _ _ _ _ _)); first
             | (with_reducible apply go_nil))
           | ((with_reducible (show evG _ _ _ _ _)); first
             | (with_reducible apply go_seq)
             | (with_reducible apply go_region)
             | (((with_reducible apply go_cond); rfl) <;> (intro h; simp only [h]; try simp only [decide_eq_true_eq, decide_eq_false_iff_not, Bool.not_eq_true', Bool.not_eq_false', Bool.not_true, Bool.not_false] at h; try exact absurd trivial h))
             | (with_reducible apply go_ret)
             | (with_reducible apply go_skipc)
             | (with_reducible apply go_block)
             | (with_reducible apply go_exit))
           | (with_reducible apply go_kseq)
           | (with_reducible apply go_kseq_ret)
           | (with_reducible apply go_kblock)
           | (with_reducible apply go_kblock_ret)
           | (with_reducible apply go_kblock_exit)
           | (with_reducible apply go_kseq_exit)
           | ((with_reducible apply end_bool); rfl)
           | (with_reducible rfl)
    all_goals first
      | exact absurd hlt (by omega)
      | rfl
      | (refine ⟨by omega, fun j hj hj' => ?_, entails_eq (nx := 32) (k := 1) (ns := []) (ks := [7, 3, 4, 2]) [(0, 0), (1, 1)] rfl (by simp) (by kernel_rfl)⟩
         rcases Nat.lt_succ_iff_lt_or_eq.1 hj with h' | rfl
         · exact hC j h' hj'
         · omega)
      | trace_state
  · have e : i = c.axis.length := by omega
    subst e
    have y9 := h_settled c g (m % 1000) ⟨hok, hw, fun a ha => by
      obtain ⟨j, hj, rfl⟩ := List.mem_iff_getElem.1 ha
      exact hC j hj hj, by omega⟩ h40
    repeat' first
           | (with_reducible apply go_op)
           | (with_reducible apply go_next)
           | ((with_reducible (show evOp _ _ _ _ _ _)); first
             | ((with_reducible (show evOp _ (.move _) _ _ _ _)) ; first | ((with_reducible apply go_mv_int); rfl; rfl) | ((with_reducible apply go_mv_bool); rfl; rfl))
             | ((with_reducible apply go_as))
             | ((with_reducible (show evOp _ (.load _ _) _ _ _ _)) ; first | ((with_reducible apply go_ld_agg); rfl; rfl; rfl; rfl) | ((with_reducible apply go_load); rfl; rfl; rfl) | ((with_reducible apply go_load_own); rfl; rfl; rfl; rfl))
             | ((with_reducible (show evOp _ (.fieldAddr _ _ _) _ _ _ _)) ; first | ((with_reducible apply go_fieldAddr); rfl; rfl) | ((with_reducible apply go_fieldAddr_own); rfl; rfl; rfl))
             | (((with_reducible apply go_index_nat); rfl; rfl; (with_reducible rfl); (intro; rfl); rfl; omega; (intro hlt)))
             | ((with_reducible (show evOp _ (.binOp _ _ _ _ _) _ _ _ _)) ; first | ((with_reducible apply go_cmp); rfl; rfl; rfl; rfl) | ((with_reducible apply go_add); rfl; rfl; rfl; omega) | ((with_reducible apply go_rem_pos); rfl; rfl; rfl; omega))
             | ((with_reducible (show evOp _ (.call _) _ _ _ _)) ; first | ((with_reducible apply go_len); rfl; rfl) | ((with_reducible apply go_fn_bool); rfl; (exact y9); rfl))
             | (((with_reducible apply go_conv64); rfl; rfl; omega)))
           | ((with_reducible (show evOps _ _ _ _ _ _)); first
             | (with_reducible apply go_nil))
           | ((with_reducible (show evG _ _ _ _ _)); first
             | (with_reducible apply go_seq)
             | (with_reducible apply go_region)
             | (((with_reducible apply go_cond); rfl) <;> (intro h; simp only [h]; try simp only [decide_eq_true_eq, decide_eq_false_iff_not, Bool.not_eq_true', Bool.not_eq_false', Bool.not_true, Bool.not_false] at h; try exact absurd trivial h))
             | (with_reducible apply go_ret)
             | (with_reducible apply go_skipc)
             | (with_reducible apply go_block)
             | (with_reducible apply go_exit))
           | (with_reducible apply go_kseq)
           | (with_reducible apply go_kseq_ret)
           | (with_reducible apply go_kblock)
           | (with_reducible apply go_kblock_ret)
           | (with_reducible apply go_kblock_exit)
           | (with_reducible apply go_kseq_exit)
           | ((with_reducible apply end_bool); rfl)
           | (with_reducible rfl)
    all_goals first
      | rfl
      | (exfalso; omega)
      | trace_state
end Go.Pv.Soil

open Go Go.Proofs Go.Pv
set_option maxHeartbeats 1000000
set_option maxRecDepth 100000
set_option linter.unusedVariables false
namespace Go.Pv.Soil
theorem own : ownKnob Tryz.prog.godebug = none := by kernel_rfl
theorem laidOut : laidOutB Tryz.prog = true := by kernel_rfl
theorem rInt : Reads Tryz.prog 3 I64 (fun n => [.int .i64 n]) := reads_i64 Tryz.underlying3 (by kernel_rfl)
theorem rStr : Reads Tryz.prog 9 (fun s : ByteArray => s.size ≤ maxLen) (fun s => [.str s]) := reads_str Tryz.underlying9 (by kernel_rfl)
theorem rInts : Reads Tryz.prog 26 (fun l : List Int => l.length ≤ maxLen ∧ ∀ a ∈ l, I64 a) (fun l => [.sl (l.map encInt)]) := reads_slice Tryz.underlying26 rInt (k := 1) (by kernel_rfl) (by decide) (by kernel_rfl)
theorem rMore : Reads Tryz.prog 29 (fun n : Int => 0 ≤ n ∧ n ≤ 65535) (fun n => [.int .u16 n]) :=
  (reads_int (k := .u16) Tryz.underlying29 (by kernel_rfl)).map (fun n => n) (fun _ _ => rfl) (fun _ h => by simp [Lit.wf, IntKind.min, IntKind.max, IntKind.bits, IntKind.signed] at h; omega) fun _ _ => by kernel_rfl
theorem rAxp : Reads Tryz.prog 37 (fun _ : Axp => True) encAxp :=
  (reads_struct Tryz.underlying37 (by kernel_rfl) (readsF_cons (k := 1) rInt (by kernel_rfl) rfl (readsF_cons (k := 1) rInt (by kernel_rfl) rfl (readsF_cons (k := 1) rInt (by kernel_rfl) rfl (readsF_cons (k := 1) rInt (by kernel_rfl) rfl (readsF_cons (k := 1) rInt (by kernel_rfl) rfl readsF_nil)))))).map
    (fun x => ⟨x.1, x.2.1, x.2.2.1, x.2.2.2.1, x.2.2.2.2.1⟩) (fun _ _ => rfl) (fun _ h => trivial) fun _ _ => by kernel_rfl
theorem rAxps : Reads Tryz.prog 22 (fun l : List Axp => l.length ≤ maxLen ∧ ∀ a ∈ l, True) (fun l => [.sl (l.map encAxp)]) := reads_slice Tryz.underlying22 rAxp (k := 5) (by kernel_rfl) (by decide) (by kernel_rfl)
theorem rGPt : Reads Tryz.prog 76 (fun p : Geo.Pt => True) Geo.encPt :=
  (reads_struct Tryz.underlying76 (by kernel_rfl) (readsF_cons (k := 1) rInt (by kernel_rfl) rfl (readsF_cons (k := 1) rInt (by kernel_rfl) rfl readsF_nil))).map
    (fun x => ⟨x.1, x.2.1⟩) (fun _ _ => rfl) (fun _ h => trivial) fun _ _ => by kernel_rfl
theorem rGPts : Reads Tryz.prog 52 (fun l : List Geo.Pt => l.length ≤ maxLen ∧ ∀ p ∈ l, True) (fun l => [.sl (l.map Geo.encPt)]) := reads_slice Tryz.underlying52 rGPt (k := 2) (by kernel_rfl) (by decide) (by kernel_rfl)
theorem rReg : Reads Tryz.prog 54 (fun r : Reg => r.corners.length ≤ maxLen) encReg :=
  (reads_struct Tryz.underlying54 (by kernel_rfl) (readsF_cons (k := 1) rStr (by kernel_rfl) rfl (readsF_cons (k := 1) rInt (by kernel_rfl) rfl (readsF_cons (k := 1) rGPts (by kernel_rfl) rfl readsF_nil)))).map
    (fun x => ⟨x.1, x.2.1, x.2.2.1⟩) (fun _ _ => rfl) (fun _ h => h.2.2.1.1) fun _ _ => by kernel_rfl
theorem rRegs : Reads Tryz.prog 23 (fun l : List Reg => l.length ≤ maxLen ∧ ∀ r ∈ l, r.corners.length ≤ maxLen) (fun l => [.sl (l.map encReg)]) := reads_slice Tryz.underlying23 rReg (k := 3) (by kernel_rfl) (by decide) (by kernel_rfl)
theorem rChan : Reads Tryz.prog 25 (fun c : Chan => c.axis.length ≤ maxLen ∧ c.regions.length ≤ maxLen ∧ ∀ r ∈ c.regions, r.corners.length ≤ maxLen) encChan :=
  (reads_struct Tryz.underlying25 (by kernel_rfl) (readsF_cons (k := 1) rStr (by kernel_rfl) rfl (readsF_cons (k := 1) rAxps (by kernel_rfl) rfl (readsF_cons (k := 1) rInt (by kernel_rfl) rfl (readsF_cons (k := 1) rInt (by kernel_rfl) rfl (readsF_cons (k := 1) rRegs (by kernel_rfl) rfl readsF_nil)))))).map
    (fun x => ⟨x.1, x.2.1, x.2.2.1, x.2.2.2.1, x.2.2.2.2.1⟩) (fun _ _ => rfl) (fun _ h => ⟨h.2.1.1, h.2.2.2.2.1⟩) fun _ _ => by kernel_rfl
theorem rGridT : Reads Tryz.prog 28 (fun g : Grid => g.levels.length ≤ maxLen) encGrid :=
  (reads_struct Tryz.underlying28 (by kernel_rfl) (readsF_cons (k := 1) rInt (by kernel_rfl) rfl (readsF_cons (k := 1) rInt (by kernel_rfl) rfl (readsF_cons (k := 1) rInt (by kernel_rfl) rfl (readsF_cons (k := 1) rInt (by kernel_rfl) rfl (readsF_cons (k := 1) rInt (by kernel_rfl) rfl (readsF_cons (k := 1) rInts (by kernel_rfl) rfl readsF_nil))))))).map
    (fun x => ⟨x.1, x.2.1, x.2.2.1, x.2.2.2.1, x.2.2.2.2.1, x.2.2.2.2.2.1⟩) (fun _ _ => rfl) (fun _ h => h.2.2.2.2.2.1.1) fun _ _ => by kernel_rfl
theorem aSet : ReadsA Tryz.prog [25, 28, 29] (fun x : Chan × Grid × Int => (x.1.axis.length ≤ 9223372036854775807 ∧ x.1.regions.length ≤ 9223372036854775807 ∧ ∀ r ∈ x.1.regions, r.corners.length ≤ 9223372036854775807) ∧ x.2.1.levels.length ≤ 9223372036854775807 ∧ 0 ≤ x.2.2 ∧ x.2.2 ≤ 65535)
    (fun x => [.agg (encChan x.1), .agg (encGrid x.2.1), .int .u16 x.2.2]) :=
  (readsA_cons Tryz.underlying25 rChan (g := fun c => .agg (encChan c)) (.inr ⟨rfl, fun _ => rfl⟩) (readsA_cons Tryz.underlying28 rGridT (g := fun g => .agg (encGrid g)) (.inr ⟨rfl, fun _ => rfl⟩) (readsA_cons Tryz.underlying29 rMore (g := fun n => .int .u16 n) (.inl ⟨rfl, fun _ => rfl⟩) readsA_nil))).map
    (fun x => (x.1, x.2.1, x.2.2.1)) (fun _ _ => rfl) (fun _ h => ⟨⟨Nat.le_trans h.1.1 (by decide), Nat.le_trans h.1.2.1 (by decide), fun r hr => Nat.le_trans (h.1.2.2 r hr) (by decide)⟩, Nat.le_trans h.2.1 (by decide), h.2.2.1⟩)
theorem lawSet (x : Chan × Grid × Int) (hx : (x.1.axis.length ≤ 9223372036854775807 ∧ x.1.regions.length ≤ 9223372036854775807 ∧ ∀ r ∈ x.1.regions, r.corners.length ≤ 9223372036854775807) ∧ x.2.1.levels.length ≤ 9223372036854775807 ∧ 0 ≤ x.2.2 ∧ x.2.2 ≤ 65535) :
    Contract Tryz.prog 3 [.agg (encChan x.1), .agg (encGrid x.2.1), .int .u16 x.2.2] (.ret (.bool true)) := c_settledLaw x.1 x.2.1 x.2.2 hx.2.2 hx.1.1 hx.1.2.1 hx.1.2.2 hx.2.1
end Go.Pv.Soil

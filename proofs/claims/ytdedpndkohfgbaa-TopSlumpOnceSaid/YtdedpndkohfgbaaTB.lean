import Derived.Test.YtdedpndkohfgbaaProg
import Derived.Test.YtdedpndkohfgbaaTA
import Derived.KernelRfl
/- Part of the proofs over Ytdedpndkohfgbaa: S59, S60. -/
set_option linter.unusedVariables false
set_option linter.unusedSimpArgs false
set_option linter.unnecessarySimpa false
open Go Go.Proofs Go.Pv
set_option maxHeartbeats 8000000
set_option maxRecDepth 100000
set_option linter.unusedSimpArgs false
set_option linter.unusedVariables false
namespace Go.Pv.Soil
theorem volS_take {L : List Share} {i : Nat} (h : i < L.length) : volS (L.take (i + 1)) = volS (L.take i) + L[i].vol := by
  rw [List.take_succ_eq_append_getElem h]
  simp only [volS, List.map_append, List.sum_append, List.map_cons, List.map_nil, List.sum_cons, List.sum_nil]
  omega
theorem volS_bd {L : List Share} {B : Int} (h : VB L B) : ∀ i : Nat, i ≤ L.length → 0 ≤ volS (L.take i) ∧ volS (L.take i) ≤ B * i
  | 0, _ => by simp [volS]
  | i + 1, hi => by
    have ih := volS_bd h i (by omega)
    have h1 := h i (by omega)
    rw [volS_take (by omega)]
    have e : B * ((i + 1 : Nat) : Int) = B * i + B := by rw [Int.natCast_add, Int.mul_add]; simp
    omega
theorem walk15 (g : Ground) (m : Grid) (x : Dig) (A B : Nat) (q r : Int) (hl : m.levels.length ≤ 30) (hsl' : g.soils.length ≤ 10) (hbl' : g.borings.length ≤ 22) (hq1 : 0 ≤ q ∧ q < 2000) (hr1 : 0 ≤ r ∧ r < 2000)
  (h24 : Contract Try.prog 24 [.agg (encGrid m)] (.ret (.bool true)))
  (h23 : Contract Try.prog 23 [.agg (encGround g)] (.ret (.int .i64 0)))
  (h28 : Contract Try.prog 28 [.agg (encGrid m)] (.ret (.int .i64 0)))
  (h44a : Contract Try.prog 44 [.int .i64 x.a, .int .i64 m.levels.length] (.ret (.int .i64 A)))
  (h44b : Contract Try.prog 44 [.int .i64 x.b, .int .i64 m.levels.length] (.ret (.int .i64 B)))
  (h44t : Contract Try.prog 44 [.int .i64 x.t, .int .i64 2000] (.ret (.int .i64 q)))
  (h44d : Contract Try.prog 44 [.int .i64 x.d, .int .i64 2000] (.ret (.int .i64 r)))
  (D1 X D2 Y : List Int) (va vb : Int) (o1 : D1.length = m.levels.length) (lX : X.length = m.levels.length) (p1 : D2.length = m.levels.length) (lY : Y.length = m.levels.length)
  (h67a : Contract Try.prog 67 [.agg (encGrid m), .int .i64 A, .int .i64 (q - 2000)] (.ret (.agg (encG5 m ++ [.fr 1 (D1.map encInt)]))))
  (h25a : Contract Try.prog 25 [.agg (encGround g), .agg (encG5 m ++ [.sl (D1.map encInt)])] (.ret (.tup [.agg (encG5 m ++ [.fr 1 (X.map encInt)]), .int .i64 va, .int .i64 0])))
  (h67b : Contract Try.prog 67 [.agg (encG5 m ++ [.sl (X.map encInt)]), .int .i64 B, .int .i64 (r - 2000)] (.ret (.agg (encG5 m ++ [.fr 1 (D2.map encInt)]))))
  (h25b : Contract Try.prog 25 [.agg (encGround g), .agg (encG5 m ++ [.sl (D2.map encInt)])] (.ret (.tup [.agg (encG5 m ++ [.fr 1 (Y.map encInt)]), .int .i64 vb, .int .i64 0])))
  (D3 D4 Z : List Int) (vc f1 f2 fa ua : Int) (L : List Share) (lD3 : D3.length = m.levels.length) (lD4 : D4.length = m.levels.length) (lZ : Z.length = m.levels.length)
  (h67c : Contract Try.prog 67 [.agg (encGrid m), .int .i64 B, .int .i64 (r - 2000)] (.ret (.agg (encG5 m ++ [.fr 1 (D3.map encInt)]))))
  (h67d : Contract Try.prog 67 [.agg (encG5 m ++ [.sl (D3.map encInt)]), .int .i64 A, .int .i64 (q - 2000)] (.ret (.agg (encG5 m ++ [.fr 1 (D4.map encInt)]))))
  (h25c : Contract Try.prog 25 [.agg (encGround g), .agg (encG5 m ++ [.sl (D4.map encInt)])] (.ret (.tup [.agg (encG5 m ++ [.fr 1 (Z.map encInt)]), .int .i64 vc, .int .i64 0])))
  (h32 : Contract Try.prog 32 [.agg (encG5 m ++ [.sl (Y.map encInt)]), .agg (encG5 m ++ [.sl (Z.map encInt)])] (.ret (.bool true)))
  (h33a : Contract Try.prog 33 [.agg (encGrid m), .agg (encG5 m ++ [.sl (D1.map encInt)])] (.ret (.int .i64 f1)))
  (h33b : Contract Try.prog 33 [.agg (encG5 m ++ [.sl (X.map encInt)]), .agg (encG5 m ++ [.sl (D2.map encInt)])] (.ret (.int .i64 f2)))
  (h68 : Contract Try.prog 68 [.agg (encGrid m), .agg (encG5 m ++ [.sl (Y.map encInt)])] (.ret (.tup [.agg [.int .i64 fa, .int .i64 0, .int .i64 ua], .int .i64 0])))
  (h52 : Contract Try.prog 52 [.agg (encGround g), .agg (encGrid m), .agg (encG5 m ++ [.sl (Y.map encInt)])] (.ret (.tup [.fr 2 (L.map encShare), .int .i64 0])))
  (va0 : 0 ≤ va) (va1 : va ≤ 4096000000000000) (vb0 : 0 ≤ vb) (vb1 : vb ≤ 4096000000000000) (vc0 : 0 ≤ vc)
  (b1 : -1000000000000000 ≤ f1 ∧ f1 ≤ 1000000000000000) (b2 : -1000000000000000 ≤ f2 ∧ f2 ≤ 1000000000000000)
  (hsum : fa = f1 + f2 + va + vb) (hvol : volS L = fa) (h8 : L.length ≤ 8) (hVB : VB L 1440000000000000)
  : Contract Try.prog 15 [.agg (encGround g), .agg (encGrid m), .agg (encDig x)] (.ret (.bool true)) := by
  refine contract_of mix Try.func15 rfl rfl (by rw [Try.ntmps15]; exact Nat.le_of_ble_eq_true rfl) ?_; rw [Try.results15, Try.ntmps15]; simp only [argsE, Nat.reduceAdd]
  repeat' first
           | (with_reducible apply go_op)
           | (with_reducible apply go_next)
           | ((with_reducible (show evOp _ _ _ _ _ _)); first
             | (((with_reducible apply go_mv_bool); rfl; rfl))
             | ((with_reducible apply go_as))
             | ((with_reducible (show evOp _ (.load _ _) _ _ _ _)) ; first | ((with_reducible apply go_ld_agg); rfl; rfl; rfl; rfl) | ((with_reducible apply go_load_own); rfl; rfl; rfl; rfl))
             | (((with_reducible apply go_fieldAddr_own); rfl; rfl; rfl))
             | ((with_reducible (show evOp _ (.binOp _ _ _ _ _) _ _ _ _)) ; first | ((with_reducible apply go_cmp); rfl; rfl; rfl; rfl) | ((with_reducible apply go_sub); rfl; rfl; rfl; omega))
             | ((with_reducible (show evOp _ (.call _) _ _ _ _)) ; first | ((with_reducible apply go_len); rfl; rfl) | ((with_reducible apply go_fn_bool); rfl; (exact c66); rfl) | ((with_reducible apply go_fn_bool); rfl; (exact h24); rfl) | ((with_reducible apply go_fn_int); rfl; (exact h23); rfl) | ((with_reducible apply go_fn_int); rfl; (exact h28); rfl) | ((with_reducible apply go_fn_int); rfl; (exact h44a); rfl) | ((with_reducible apply go_fn_int); rfl; (exact h44b); rfl) | ((with_reducible apply go_fn_int); rfl; (exact h44t); rfl))
             | (((with_reducible apply go_store); rfl; rfl; rfl; rfl; rfl; rfl; (exact Nat.le_of_ble_eq_true rfl); (first | exact Nat.le_of_ble_eq_true rfl | omega); rfl; rfl))
             | (((with_reducible apply go_not); rfl; rfl))
             | (((with_reducible apply go_pick); rfl; rfl; rfl))
             | (((with_reducible apply go_bx_agg); rfl; rfl; (exact Nat.le_of_ble_eq_true rfl); rfl; rfl)))
           | ((with_reducible (show evOps _ _ _ _ _ _)); first
             | (with_reducible apply go_nil)
             | ((with_reducible apply go_run); rfl; rfl)
             | ((with_reducible apply go_pass); rfl; rfl; rfl)
             | (((with_reducible apply go_guard); rfl) <;> (intro h; simp only [h, Bool.not_true, Bool.not_false]; (try with_reducible (refine ⟨rfl, ?_⟩)); try simp only [decide_eq_true_eq, decide_eq_false_iff_not, Bool.not_eq_true', Bool.not_eq_false', Bool.not_true, Bool.not_false] at h; try exact absurd trivial h))
             | ((with_reducible apply go_pre); rfl)
             | ((with_reducible apply go_pre_stop); rfl)
             | ((with_reducible apply go_suf); rfl)
             | ((with_reducible apply go_suf_stop); rfl)
             | (with_reducible apply go_take))
           | ((with_reducible (show ev _ _ _ _)); first
             | (with_reducible apply go_seq)
             | (with_reducible apply go_region)
             | ((with_reducible apply go_cond_t); rfl; rfl)
             | ((with_reducible apply go_cond_f); rfl; rfl)
             | ((with_reducible apply (go_drawL 9 [[7], [], []])); decide +kernel; rfl)
             | ((with_reducible apply go_order); kernel_rfl; rfl)
             | (with_reducible apply go_ret)
             | (with_reducible apply go_skipc))
           | (with_reducible apply go_kseq)
           | (with_reducible apply go_ksuf)
           | (with_reducible apply go_kseq_ret)
           | ((with_reducible apply end_bool); rfl)
           | (with_reducible rfl)
  all_goals try exact absurd rfl ‹_›
  repeat' first
           | (with_reducible apply go_op)
           | (with_reducible apply go_next)
           | ((with_reducible (show evOp _ _ _ _ _ _)); first
             | (((with_reducible apply go_fieldAddr_own); rfl; rfl; rfl))
             | (((with_reducible apply go_sub); rfl; rfl; rfl; omega))
             | (((with_reducible apply go_fn_int); rfl; (exact h44d); rfl))
             | (((with_reducible apply go_store); rfl; rfl; rfl; rfl; rfl; rfl; (exact Nat.le_of_ble_eq_true rfl); (first | exact Nat.le_of_ble_eq_true rfl | omega); rfl; rfl)))
           | ((with_reducible (show evOps _ _ _ _ _ _)); first
             | (with_reducible apply go_nil)
             | (with_reducible apply go_take)
             | (with_reducible apply go_take0))
           | (with_reducible apply go_klined)
           | (with_reducible apply go_line_drop)
           | (with_reducible apply go_line_drop0)
           | (with_reducible apply go_line)
           | (with_reducible apply go_line_nil)
           | (with_reducible apply go_kln)
           | (with_reducible apply go_again_nil)
           | ((with_reducible apply go_again); rfl; (intro id'))
           | ((with_reducible apply go_kagain); rfl)
           | (with_reducible apply go_kseq)
  refine Or.inr ⟨⟨[(7, .op 3 0 0), (3, .op 0 0 0), (4, .op 1 0 0), (5, .op 2 0 0)], [(0, ⟨2, true, [encGround g]⟩), (1, ⟨6, true, [encGrid m]⟩), (2, ⟨4, true, [[.int .i64 A, .int .i64 (q - 2000), .int .i64 B, .int .i64 (r - 2000)]]⟩), (3, ⟨6, false, [encG5 m ++ [.os 4 0 D1.length]]⟩), (4, ⟨1, true, D1.map encInt⟩)], 32, 207⟩, ?_, ?_⟩
  · repeat' first
           | (with_reducible apply go_op)
           | (with_reducible apply go_next)
           | ((with_reducible (show evOp _ _ _ _ _ _)); first
             | ((with_reducible (show evOp _ (.load _ _) _ _ _ _)) ; first | ((with_reducible apply go_ld_agg); rfl; rfl; rfl; rfl) | ((with_reducible apply go_load_own); rfl; rfl; rfl; rfl))
             | (((with_reducible apply go_fieldAddr_own); rfl; rfl; rfl))
             | (((with_reducible apply (go_fn_agf (cs := encG5 m))); rfl; (exact h67a); (exact scalInt); rfl; rfl; rfl; rfl; rfl))
             | (((with_reducible apply go_st_agg); rfl; rfl; rfl; rfl; rfl; rfl; rfl))
             | (((with_reducible apply go_alloc); rfl; rfl; rfl)))
           | ((with_reducible (show evOps _ _ _ _ _ _)); first
             | (with_reducible apply go_nil))
           | ((with_reducible (show ev _ _ _ _)); first
             | (with_reducible apply go_region))
           | (with_reducible apply go_kseq)
    exact entails_eq (nx := 32) (k := 1) (ns := []) (ks := [7, 3, 4, 5]) [(0, 0), (32, 1), (64, 2), (2944, 3), (2917, 4)] rfl (by simp) (by kernel_rfl)
  · repeat' first
           | (with_reducible apply go_op)
           | (with_reducible apply go_next)
           | ((with_reducible (show evOp _ _ _ _ _ _)); first
             | ((with_reducible (show evOp _ (.move _) _ _ _ _)) ; first | ((with_reducible apply go_mv_int); rfl; rfl) | ((with_reducible apply go_mv_tup); rfl; rfl))
             | ((with_reducible apply go_as))
             | ((with_reducible (show evOp _ (.load _ _) _ _ _ _)) ; first | ((with_reducible apply go_ld_agg); rfl; rfl; rfl; rfl) | ((with_reducible apply go_load_own); rfl; rfl; rfl; rfl))
             | (((with_reducible apply go_fieldAddr_own); rfl; rfl; rfl))
             | (((with_reducible apply (go_fn_agf3 (cs := encG5 m))); (exact purL_agf2 (cs := encG5 m) rfl rfl (by simp; try assumption) rfl rfl rfl); (exact h25a); (exact scalInt); rfl; rfl; rfl; rfl; rfl; rfl; rfl))
             | (((with_reducible apply go_st_agg); rfl; rfl; rfl; rfl; rfl; rfl; rfl))
             | (((with_reducible apply go_extract); rfl; rfl))
             | (((with_reducible apply go_alloc); rfl; rfl; rfl)))
           | ((with_reducible (show evOps _ _ _ _ _ _)); first
             | (with_reducible apply go_nil))
           | ((with_reducible (show ev _ _ _ _)); first
             | (with_reducible apply go_seq)
             | (with_reducible apply go_region))
           | (with_reducible apply go_kseq)
    repeat' first
           | (with_reducible apply go_op)
           | (with_reducible apply go_next)
           | ((with_reducible (show evOp _ _ _ _ _ _)); first
             | (((with_reducible apply (go_fn_agfr (cs := encG5 m))); (exact purL_agf (cs := encG5 m) rfl (by simp; try assumption) rfl rfl rfl); (exact h67b); (exact scalInt); rfl; rfl; rfl; rfl; rfl))
             | (((with_reducible apply go_st_agg); rfl; rfl; rfl; rfl; rfl; rfl; rfl))
             | (((with_reducible apply go_alloc); rfl; rfl; rfl)))
           | ((with_reducible (show evOps _ _ _ _ _ _)); first
             | (with_reducible apply go_nil))
           | (with_reducible apply go_kseq)
    refine Or.inr ⟨⟨[(14, .int .i64 0), (13, .int .i64 vb), (12, .op 9 0 0), (11, .op 7 0 0), (10, .int .i64 0), (9, .int .i64 va), (8, .op 5 0 0), (7, .op 3 0 0), (3, .op 0 0 0), (4, .op 1 0 0), (5, .op 2 0 0)], [(0, ⟨2, true, [encGround g]⟩), (1, ⟨6, true, [encGrid m]⟩), (2, ⟨4, true, [[.int .i64 A, .int .i64 (q - 2000), .int .i64 B, .int .i64 (r - 2000)]]⟩), (3, ⟨6, false, [encG5 m ++ [.os 4 0 D1.length]]⟩), (4, ⟨1, true, D1.map encInt⟩), (5, ⟨6, false, [encG5 m ++ [.os 6 0 X.length]]⟩), (6, ⟨1, true, X.map encInt⟩), (7, ⟨6, false, [encG5 m ++ [.os 8 0 D2.length]]⟩), (8, ⟨1, true, D2.map encInt⟩), (9, ⟨6, false, [encG5 m ++ [.os 10 0 Y.length]]⟩), (10, ⟨1, true, Y.map encInt⟩)], 32, 207⟩, ?_, ?_⟩
    · repeat' first
           | (with_reducible apply go_op)
           | (with_reducible apply go_next)
           | ((with_reducible (show evOp _ _ _ _ _ _)); first
             | ((with_reducible (show evOp _ (.move _) _ _ _ _)) ; first | ((with_reducible apply go_mv_int); rfl; rfl) | ((with_reducible apply go_mv_tup); rfl; rfl))
             | ((with_reducible apply go_as))
             | (((with_reducible apply go_ld_agg); rfl; rfl; rfl; rfl))
             | (((with_reducible apply (go_fn_agf3 (cs := encG5 m))); (exact purL_agf2 (cs := encG5 m) rfl rfl (by simp; try assumption) rfl rfl rfl); (exact h25b); (exact scalInt); rfl; rfl; rfl; rfl; rfl; rfl; rfl))
             | (((with_reducible apply go_st_agg); rfl; rfl; rfl; rfl; rfl; rfl; rfl))
             | (((with_reducible apply go_extract); rfl; rfl))
             | (((with_reducible apply go_alloc); rfl; rfl; rfl)))
           | ((with_reducible (show evOps _ _ _ _ _ _)); first
             | (with_reducible apply go_nil))
           | ((with_reducible (show ev _ _ _ _)); first
             | (with_reducible apply go_region))
           | (with_reducible apply go_kseq)
      exact entails_eq (nx := 32) (k := 1) (ns := []) (ks := [14, 13, 12, 11, 10, 9, 8, 7, 3, 4, 5]) [(0, 0), (1, 1), (2, 2), (3, 3), (4, 4), (256, 5), (101, 6), (576, 7), (549, 8), (864, 9), (709, 10)] rfl (by simp) (by kernel_rfl)
    · refine Or.inr ⟨⟨[(17, .int .i64 0), (16, .int .i64 vc), (15, .op 11 0 0), (14, .int .i64 0), (13, .int .i64 vb), (12, .op 9 0 0), (11, .op 7 0 0), (10, .int .i64 0), (9, .int .i64 va), (8, .op 5 0 0), (7, .op 3 0 0), (3, .op 0 0 0), (4, .op 1 0 0), (5, .op 2 0 0)], [(0, ⟨2, true, [encGround g]⟩), (1, ⟨6, true, [encGrid m]⟩), (2, ⟨4, true, [[.int .i64 A, .int .i64 (q - 2000), .int .i64 B, .int .i64 (r - 2000)]]⟩), (3, ⟨6, false, [encG5 m ++ [.os 4 0 D1.length]]⟩), (4, ⟨1, true, D1.map encInt⟩), (5, ⟨6, false, [encG5 m ++ [.os 6 0 X.length]]⟩), (6, ⟨1, true, X.map encInt⟩), (7, ⟨6, false, [encG5 m ++ [.os 8 0 D2.length]]⟩), (8, ⟨1, true, D2.map encInt⟩), (9, ⟨6, false, [encG5 m ++ [.os 10 0 Y.length]]⟩), (10, ⟨1, true, Y.map encInt⟩), (11, ⟨6, false, [encG5 m ++ [.os 12 0 Z.length]]⟩), (12, ⟨1, true, Z.map encInt⟩)], 32, 207⟩, ?_, ?_⟩
      · repeat' first
           | (with_reducible apply go_op)
           | (with_reducible apply go_next)
           | ((with_reducible (show evOp _ _ _ _ _ _)); first
             | ((with_reducible (show evOp _ (.move _) _ _ _ _)) ; first | ((with_reducible apply go_mv_int); rfl; rfl) | ((with_reducible apply go_mv_tup); rfl; rfl))
             | ((with_reducible apply go_as))
             | ((with_reducible (show evOp _ (.load _ _) _ _ _ _)) ; first | ((with_reducible apply go_ld_agg); rfl; rfl; rfl; rfl) | ((with_reducible apply go_load_own); rfl; rfl; rfl; rfl))
             | (((with_reducible apply go_fieldAddr_own); rfl; rfl; rfl))
             | ((with_reducible (show evOp _ (.call _) _ _ _ _)) ; first | ((with_reducible apply (go_fn_agf (cs := encG5 m))); rfl; (exact h67c); (exact scalInt); rfl; rfl; rfl; rfl; rfl) | ((with_reducible apply (go_fn_agfr (cs := encG5 m))); (exact purL_agf (cs := encG5 m) rfl (by simp; try assumption) rfl rfl rfl); (exact h67d); (exact scalInt); rfl; rfl; rfl; rfl; rfl) | ((with_reducible apply (go_fn_agf3 (cs := encG5 m))); (exact purL_agf2 (cs := encG5 m) rfl rfl (by simp; try assumption) rfl rfl rfl); (exact h25c); (exact scalInt); rfl; rfl; rfl; rfl; rfl; rfl; rfl))
             | (((with_reducible apply go_st_agg); rfl; rfl; rfl; rfl; rfl; rfl; rfl))
             | (((with_reducible apply go_extract); rfl; rfl))
             | (((with_reducible apply go_alloc); rfl; rfl; rfl)))
           | ((with_reducible (show evOps _ _ _ _ _ _)); first
             | (with_reducible apply go_nil)
             | (with_reducible apply go_take)
             | (with_reducible apply go_take0))
           | ((with_reducible (show ev _ _ _ _)); first
             | ((with_reducible apply (go_drawL 18 [[15, 16], [16], []])); decide +kernel; rfl))
           | (with_reducible apply go_klined)
           | (with_reducible apply go_line_drop)
           | (with_reducible apply go_line_drop0)
           | (with_reducible apply go_line)
           | (with_reducible apply go_line_nil)
           | (with_reducible apply go_kln)
           | (with_reducible apply go_again_nil)
           | ((with_reducible apply go_again); rfl; (intro id'))
           | ((with_reducible apply go_kagain); rfl)
           | (with_reducible apply go_kseq)
        exact entails_eq (nx := 32) (k := 1) (ns := []) (ks := [17, 16, 15, 14, 13, 12, 11, 10, 9, 8, 7, 3, 4, 5]) [(0, 0), (1, 1), (2, 2), (3, 3), (4, 4), (5, 5), (6, 6), (7, 7), (8, 8), (9, 9), (10, 10), (576, 11), (421, 12)] rfl (by simp) (by kernel_rfl)
      · clear h25a h25b h25c h67a h67b h67c h67d h44a h44b h44t h44d h23 h28 h24
        repeat' first
           | (with_reducible apply go_op)
           | (with_reducible apply go_next)
           | ((with_reducible (show evOp _ _ _ _ _ _)); first
             | ((with_reducible (show evOp _ (.move _) _ _ _ _)) ; first | ((with_reducible apply go_mv_int); rfl; rfl) | ((with_reducible apply go_mv_bool); rfl; rfl) | ((with_reducible apply go_mv_os); rfl; rfl) | ((with_reducible apply go_mv_tup); rfl; rfl))
             | ((with_reducible apply go_as))
             | (((with_reducible apply go_ld_agg); rfl; rfl; rfl; rfl))
             | ((with_reducible (show evOp _ (.binOp _ _ _ _ _) _ _ _ _)) ; first | ((with_reducible apply go_cmp); rfl; rfl; rfl; rfl) | ((with_reducible apply go_add); rfl; rfl; rfl; omega))
             | ((with_reducible (show evOp _ (.call _) _ _ _ _)) ; first | ((with_reducible apply go_fn_bool); (exact purL_agf_agf (cs := encG5 m) (cs2 := encG5 m) rfl (by simp; try assumption) rfl rfl rfl (by simp; try assumption) rfl rfl); (exact h32); rfl) | ((with_reducible apply go_fn_int); (exact purL_agf2 (cs := encG5 m) rfl rfl (by simp; try assumption) rfl rfl rfl); (exact h33a); rfl) | ((with_reducible apply go_fn_int); (exact purL_agf_agf (cs := encG5 m) (cs2 := encG5 m) rfl (by simp; try assumption) rfl rfl rfl (by simp; try assumption) rfl rfl); (exact h33b); rfl) | ((with_reducible apply go_fn_plain); (exact purL_agf2 (cs := encG5 m) rfl rfl (by simp; try assumption) rfl rfl rfl); (exact h68); rfl; (exact Nat.le_of_ble_eq_true rfl); rfl) | ((with_reducible apply go_fn_fr2); (exact purL_agf3 (cs := encG5 m) rfl rfl rfl (by simp; try assumption) rfl rfl rfl); (exact h52); (exact scalShare); rfl; rfl))
             | (((with_reducible apply go_st_agg); rfl; rfl; rfl; rfl; rfl; rfl; rfl))
             | (((with_reducible apply go_not); rfl; rfl))
             | (((with_reducible apply go_extract); rfl; rfl))
             | (((with_reducible apply go_pick); rfl; rfl; rfl))
             | (((with_reducible apply go_alloc); rfl; rfl; rfl)))
           | ((with_reducible (show evOps _ _ _ _ _ _)); first
             | (with_reducible apply go_nil)
             | ((with_reducible apply go_run); rfl; rfl)
             | ((with_reducible apply go_pass); rfl; rfl; rfl)
             | (((with_reducible apply go_guard); rfl) <;> (intro h; simp only [h, Bool.not_true, Bool.not_false]; (try with_reducible (refine ⟨rfl, ?_⟩)); try simp only [decide_eq_true_eq, decide_eq_false_iff_not, Bool.not_eq_true', Bool.not_eq_false', Bool.not_true, Bool.not_false] at h; try exact absurd trivial h))
             | ((with_reducible apply go_pre); rfl)
             | (with_reducible apply go_pre_nil)
             | ((with_reducible apply go_suf); rfl)
             | (with_reducible apply go_suf_nil))
           | ((with_reducible (show ev _ _ _ _)); first
             | (with_reducible apply go_seq)
             | (with_reducible apply go_region)
             | ((with_reducible apply go_cond_t); rfl; rfl)
             | (((with_reducible apply go_cond); rfl) <;> (intro h; simp only [h]; try simp only [decide_eq_true_eq, decide_eq_false_iff_not, Bool.not_eq_true', Bool.not_eq_false', Bool.not_true, Bool.not_false] at h; try exact absurd trivial h))
             | ((with_reducible apply go_order); kernel_rfl; rfl)
             | (with_reducible apply go_ret)
             | (with_reducible apply go_skipc)
             | (with_reducible apply go_block))
           | (with_reducible apply go_kseq)
           | (with_reducible apply go_ksuf)
           | (with_reducible apply go_kseq_ret)
           | ((with_reducible apply end_bool); rfl)
        all_goals try exact absurd rfl ‹_›
        all_goals try (exfalso; omega)
        refine go_count L.length (fun i => ⟨[(24, .int .i64 i), (23, .int .i64 (volS (L.take i))), (21, .os 1 0 L.length), (22, .int .i64 0), (20, .int .i64 0), (19, .op 0 0 0), (18, .int .i64 (f1 + f2)), (9, .int .i64 va), (13, .int .i64 vb)], [(0, ⟨3, true, [[.int .i64 fa, .int .i64 0, .int .i64 ua]]⟩), (1, ⟨2, true, L.map encShare⟩)], 32, 207⟩) (fun _ => True)
          (entails_eq (nx := 32) (k := 1) (ns := []) (ks := [24, 23, 21, 22, 20, 19, 18, 9, 13]) [(1376, 0), (1568, 1)] rfl (by simp) (by kernel_rfl)) trivial ?_
        intro i hi _
        have hbd := volS_bd hVB i hi
        by_cases hlt : i < L.length
        · have hv := hVB i hlt
          have hnx := volS_take hlt
          repeat' first
           | (with_reducible apply go_op)
           | (with_reducible apply go_next)
           | ((with_reducible (show evOp _ _ _ _ _ _)); first
             | ((with_reducible (show evOp _ (.move _) _ _ _ _)) ; first | ((with_reducible apply go_mv_int); rfl; rfl) | ((with_reducible apply go_mv_bool); rfl; rfl) | ((with_reducible apply go_mv_os); rfl; rfl))
             | ((with_reducible apply go_as))
             | ((with_reducible (show evOp _ (.load _ _) _ _ _ _)) ; first | ((with_reducible apply go_load_om); rfl; rfl; rfl; rfl; rotate_left; assumption) | ((with_reducible apply go_load_own); rfl; rfl; rfl; rfl))
             | (((with_reducible apply go_fieldAddr_own); rfl; rfl; rfl))
             | (((with_reducible apply go_index_om); rfl; rfl; rfl; (with_reducible rfl); rfl; rfl; omega; (intro hlt)))
             | ((with_reducible (show evOp _ (.binOp _ _ _ _ _) _ _ _ _)) ; first | ((with_reducible apply go_cmp); rfl; rfl; rfl; rfl) | ((with_reducible apply go_add); rfl; rfl; rfl; omega))
             | (((with_reducible apply go_len_own); rfl; rfl; rfl))
             | (((with_reducible apply go_pick); rfl; rfl; rfl)))
           | ((with_reducible (show evOps _ _ _ _ _ _)); first
             | (with_reducible apply go_nil)
             | ((with_reducible apply go_run); rfl; rfl)
             | ((with_reducible apply go_pass); rfl; rfl; rfl)
             | (((with_reducible apply go_guard); rfl) <;> (intro h; simp only [h, Bool.not_true, Bool.not_false]; (try with_reducible (refine ⟨rfl, ?_⟩)); try simp only [decide_eq_true_eq, decide_eq_false_iff_not, Bool.not_eq_true', Bool.not_eq_false', Bool.not_true, Bool.not_false] at h; try exact absurd trivial h)))
           | ((with_reducible (show ev _ _ _ _)); first
             | (with_reducible apply go_seq)
             | (with_reducible apply go_region)
             | (((with_reducible apply go_cond); rfl) <;> (intro h; simp only [h]; try simp only [decide_eq_true_eq, decide_eq_false_iff_not, Bool.not_eq_true', Bool.not_eq_false', Bool.not_true, Bool.not_false] at h; try exact absurd trivial h))
             | (with_reducible apply go_ret)
             | (with_reducible apply go_skipc)
             | (with_reducible apply go_block)
             | (with_reducible apply go_exit))
           | (with_reducible apply go_kseq)
           | (with_reducible apply go_kblock)
           | (with_reducible apply go_kblock_exit)
           | (with_reducible apply go_kseq_exit)
           | ((with_reducible apply end_bool); rfl)
          all_goals try exact absurd hlt (by omega)
          refine ⟨‹i < L.length›, trivial, ?_⟩
          rw [hnx]
          exact entails_eq (nx := 32) (k := 1) (ns := []) (ks := [24, 23, 21, 22, 20, 19, 18, 9, 13]) [(0, 0), (1, 1)] rfl (by simp) (by kernel_rfl)
        · have e : i = L.length := by omega
          have et : volS (L.take i) = fa := by rw [e, List.take_length, hvol]
          rw [et]
          repeat' first
           | (with_reducible apply go_op)
           | (with_reducible apply go_next)
           | ((with_reducible (show evOp _ _ _ _ _ _)); first
             | ((with_reducible (show evOp _ (.move _) _ _ _ _)) ; first | ((with_reducible apply go_mv_int); rfl; rfl) | ((with_reducible apply go_mv_bool); rfl; rfl) | ((with_reducible apply go_mv_os); rfl; rfl))
             | ((with_reducible apply go_as))
             | ((with_reducible (show evOp _ (.load _ _) _ _ _ _)) ; first | ((with_reducible apply go_load_om); rfl; rfl; rfl; rfl; rotate_left; assumption) | ((with_reducible apply go_load_own); rfl; rfl; rfl; rfl))
             | (((with_reducible apply go_fieldAddr_own); rfl; rfl; rfl))
             | (((with_reducible apply go_index_om); rfl; rfl; rfl; (with_reducible rfl); rfl; rfl; omega; (intro hlt)))
             | ((with_reducible (show evOp _ (.binOp _ _ _ _ _) _ _ _ _)) ; first | ((with_reducible apply go_cmp); rfl; rfl; rfl; rfl) | ((with_reducible apply go_add); rfl; rfl; rfl; omega))
             | (((with_reducible apply go_len_own); rfl; rfl; rfl))
             | (((with_reducible apply go_pick); rfl; rfl; rfl)))
           | ((with_reducible (show evOps _ _ _ _ _ _)); first
             | (with_reducible apply go_nil)
             | ((with_reducible apply go_run); rfl; rfl)
             | ((with_reducible apply go_pass); rfl; rfl; rfl)
             | (((with_reducible apply go_guard); rfl) <;> (intro h; simp only [h, Bool.not_true, Bool.not_false]; (try with_reducible (refine ⟨rfl, ?_⟩)); try simp only [decide_eq_true_eq, decide_eq_false_iff_not, Bool.not_eq_true', Bool.not_eq_false', Bool.not_true, Bool.not_false] at h; try exact absurd trivial h)))
           | ((with_reducible (show ev _ _ _ _)); first
             | (with_reducible apply go_seq)
             | (with_reducible apply go_region)
             | (((with_reducible apply go_cond); rfl) <;> (intro h; simp only [h]; try simp only [decide_eq_true_eq, decide_eq_false_iff_not, Bool.not_eq_true', Bool.not_eq_false', Bool.not_true, Bool.not_false] at h; try exact absurd trivial h))
             | (with_reducible apply go_ret)
             | (with_reducible apply go_skipc)
             | (with_reducible apply go_block)
             | (with_reducible apply go_exit))
           | (with_reducible apply go_kseq)
           | (with_reducible apply go_kblock)
           | (with_reducible apply go_kblock_exit)
           | (with_reducible apply go_kseq_exit)
           | ((with_reducible apply end_bool); rfl)
          all_goals first
            | exact absurd hlt (by omega)
            | (exfalso; omega)
            | exact decide_eq_true rfl
            | trace_state
end Go.Pv.Soil

open Go Go.Proofs Go.Pv
set_option maxHeartbeats 8000000
set_option maxRecDepth 100000
set_option linter.unusedSimpArgs false
set_option linter.unusedVariables false
namespace Go.Pv.Soil

theorem good15 (g : Ground) (m : Grid) (x : Dig) (hl : m.levels.length ≤ 30) (hsl' : g.soils.length ≤ 10) (hbl' : g.borings.length ≤ 22) (hg0 : groundE g = 0) (hm0 : gridE m = 0) : Contract Try.prog 15 [.agg (encGround g), .agg (encGrid m), .agg (encDig x)] (.ret (.bool true)) := by
  have hsl : g.soils.length < 1000000000000 := by omega
  have hbl : g.borings.length < 1000000000000 := by omega
  have h24 : Contract Try.prog 24 [.agg (encGrid m)] (.ret (.bool true)) := by
    have := c24 m
    rwa [decide_eq_true hl] at this
  have h23 : Contract Try.prog 23 [.agg (encGround g)] (.ret (.int .i64 0)) := hg0 ▸ c23 g hsl hbl
  have h28 : Contract Try.prog 28 [.agg (encGrid m)] (.ret (.int .i64 0)) := hm0 ▸ c28 m (by omega)
  have hg := okG hg0
  have hm := okGrid hm0
  have hge : griddedE g [m] = 0 := by
    unfold griddedE
    rw [if_neg (fun h => h hg0)]
    simp [firstOf, hm0]
  have hcr := mul_bd hm.bds.2.2.1 hm.bds.2.2.2
  have hlen := hm.len
  have hn0 : 0 < (m.levels.length : Int) := by omega
  obtain ⟨A, hA⟩ := Int.eq_ofNat_of_zero_le (Int.emod_nonneg x.a (b := (m.levels.length : Int)) (by omega))
  have hA1 : A < m.levels.length := by have := Int.emod_lt_of_pos x.a hn0; omega
  obtain ⟨B, hB⟩ := Int.eq_ofNat_of_zero_le (Int.emod_nonneg x.b (b := (m.levels.length : Int)) (by omega))
  have hB1 : B < m.levels.length := by have := Int.emod_lt_of_pos x.b hn0; omega
  obtain ⟨q, hq⟩ : ∃ q, x.t % 2000 = q := ⟨_, rfl⟩
  have hq1 : 0 ≤ q ∧ q < 2000 := by omega
  obtain ⟨r, hr⟩ : ∃ r, x.d % 2000 = r := ⟨_, rfl⟩
  have hr1 : 0 ≤ r ∧ r < 2000 := by omega
  have h44a : Contract Try.prog 44 [.int .i64 x.a, .int .i64 m.levels.length] (.ret (.int .i64 A)) := hA ▸ c44 x.a m.levels.length ⟨hn0, by omega⟩
  have h44b : Contract Try.prog 44 [.int .i64 x.b, .int .i64 m.levels.length] (.ret (.int .i64 B)) := hB ▸ c44 x.b m.levels.length ⟨hn0, by omega⟩
  have h44t : Contract Try.prog 44 [.int .i64 x.t, .int .i64 2000] (.ret (.int .i64 q)) := hq ▸ c44 x.t 2000 (by omega)
  have h44d : Contract Try.prog 44 [.int .i64 x.d, .int .i64 2000] (.ret (.int .i64 r)) := hr ▸ c44 x.d 2000 (by omega)
  -- the beds
  have key : ∀ l : List Int, l.length = m.levels.length → (∀ i, i < l.length → lv l i ≠ 30000 → -20000 ≤ lv l i ∧ lv l i ≤ 20000) → ∀ (i : Nat) (v : Int), i < m.levels.length → -2000 ≤ v ∧ v < 0 → (digL l i v).length = m.levels.length ∧ (∀ j, j < (digL l i v).length → lv (digL l i v) j ≠ 30000 → -20000 ≤ lv (digL l i v) j ∧ lv (digL l i v) j ≤ 20000) := fun l h1 h2 i v hi hv => by
    refine ⟨by rw [digL_len, h1], fun j hj hk => ?_⟩
    rw [digL_len] at hj
    have := h2 j hj
    rw [digL_lv (by omega)] at hk ⊢
    split at hk <;> split <;> omega
  have hslump : ∀ l : List Int, l.length = m.levels.length → (∀ i, i < l.length → lv l i ≠ 30000 → -20000 ≤ lv l i ∧ lv l i ≤ 20000) → ∃ r v : _, IsGS (netE g m) (-1) l r ∧ r.length = m.levels.length ∧ (∀ i, i < r.length → lv r i ≠ 30000 → -20000 ≤ lv r i ∧ lv r i ≤ 20000) ∧ v = (total (-1) r - total (-1) l) * m.side * m.side ∧ 0 ≤ v ∧ v ≤ 4096000000000000 ∧
      Contract Try.prog 25 [.agg (encGround g), .agg (encG5 m ++ [.sl (l.map encInt)])] (.ret (.tup [.agg (encG5 m ++ [.fr 1 (r.map encInt)]), .int .i64 v, .int .i64 0])) := fun l h1 h2 => by
    have hml := hm.withL h1 h2
    have hgs := slumpE_gs hg hml (.inl rfl)
    have hgr := gridded_setL hge h1 h2
    have h25 := c25 g hsl hbl (gridL m l) (by show l.length < 1000000000000; omega)
    rw [slumpR_ok hgr] at h25
    have hmid := (slumpE_mid hg hml (.inl rfl)).rng
    have htb := total_bd (.inl rfl) hgs.below h2 hmid
    have hlen' : (gridL m l).levels.length = m.levels.length := h1
    have hll : (slumpE g (gridL m l) (-1)).length = m.levels.length := by rw [hgs.below.1]; exact h1
    have hd : 0 ≤ total (-1) (slumpE g (gridL m l) (-1)) - total (-1) l ∧ total (-1) (slumpE g (gridL m l) (-1)) - total (-1) l ≤ 40960000 := by
      have htb : 0 ≤ total (-1) (slumpE g (gridL m l) (-1)) - total (-1) l ∧ total (-1) (slumpE g (gridL m l) (-1)) - total (-1) l ≤ 40000 * (l.length : Int) := htb
      omega
    have hsd := hm.bds.2.1
    have m1 := nonneg_mul (b := m.side) (m := 40960000) (n := 10000) hd (by omega)
    have m2 := nonneg_mul (b := m.side) (m := 409600000000) (n := 10000) m1 (by omega)
    exact ⟨slumpE g (gridL m l) (-1), fallE g (gridL m l) (-1), hgs, hll, hmid, rfl, m2.1, m2.2, h25⟩
  obtain ⟨o1, o2⟩ := key m.levels rfl hm.rng A (q - 2000) hA1 (by omega)
  obtain ⟨X, va, gX, lX, rX, eva, va0, va1, h25a⟩ := hslump _ o1 o2
  obtain ⟨p1, p2⟩ := key X lX rX B (r - 2000) hB1 (by omega)
  obtain ⟨Y, vb, gY, lY, rY, evb, vb0, vb1, h25b⟩ := hslump _ p1 p2
  obtain ⟨s1, s2⟩ := key m.levels rfl hm.rng B (r - 2000) hB1 (by omega)
  obtain ⟨u1, u2⟩ := key _ s1 s2 A (q - 2000) hA1 (by omega)
  obtain ⟨Z, vc, gZ, lZ, rZ, evc, vc0, vc1, h25c⟩ := hslump _ u1 u2
  have hYZ : Y = Z := (dig_once hA1 hB1 (fun i hi hk => (hm.rng i hi hk).2) (by omega) (by omega) gX gY).uniq (.inl rfl) gZ
  have hml := hm.withL o1 o2
  have hmX := hm.withL lX rX
  have hmt := hm.withL p1 p2
  have hmY := hm.withL lY rY
  have h67a := c67 m hm A hA1 (q - 2000)
  have h67b : Contract Try.prog 67 [.agg (encG5 m ++ [.sl (X.map encInt)]), .int .i64 B, .int .i64 (r - 2000)] (.ret (.agg (encG5 m ++ [.fr 1 ((digL X B (r - 2000)).map encInt)]))) := c67 (gridL m X) hmX B (by show B < X.length; omega) (r - 2000)
  have h67c := c67 m hm B hB1 (r - 2000)
  have h67d : Contract Try.prog 67 [.agg (encG5 m ++ [.sl ((digL m.levels B (r - 2000)).map encInt)]), .int .i64 A, .int .i64 (q - 2000)] (.ret (.agg (encG5 m ++ [.fr 1 ((digL (digL m.levels B (r - 2000)) A (q - 2000)).map encInt)]))) := c67 (gridL m (digL m.levels B (r - 2000))) (hm.withL s1 s2) A (by show A < (digL m.levels B (r - 2000)).length; omega) (q - 2000)
  have h32 : Contract Try.prog 32 [.agg (encG5 m ++ [.sl (Y.map encInt)]), .agg (encG5 m ++ [.sl (Z.map encInt)])] (.ret (.bool true)) := by
    subst hYZ
    have := c32 (gridL m Y) (gridL m Y) (by show Y.length < 1000000000000; omega)
    rwa [show sameE (gridL m Y) (gridL m Y) = true by simp [sameE, alikeE]] at this
  -- what lies between the beds
  have kone : ∀ i, i < m.levels.length → (lv (digL m.levels A (q - 2000)) i = 30000 ↔ lv m.levels i = 30000) := fun i hi => by
    have := hm.rng i hi
    rw [digL_lv hA1]
    split <;> omega
  have ktwo : ∀ i, i < m.levels.length → (lv (digL X B (r - 2000)) i = 30000 ↔ lv X i = 30000) := fun i hi => by
    have := rX i (by omega)
    rw [digL_lv (by omega)]
    split <;> omega
  have kX : ∀ i, i < m.levels.length → (lv X i = 30000 ↔ lv (digL m.levels A (q - 2000)) i = 30000) := fun i hi => (gX.below.2 i (by omega)).1
  have kY : ∀ i, i < m.levels.length → (lv Y i = 30000 ↔ lv (digL X B (r - 2000)) i = 30000) := fun i hi => (gY.below.2 i (by omega)).1
  have kall : ∀ i, i < m.levels.length → (lv Y i = 30000 ↔ lv m.levels i = 30000) := fun i hi => by rw [kY i hi, ktwo i hi, kX i hi, kone i hi]
  have hle : ∀ i, i < m.levels.length → lv Y i ≤ lv m.levels i := fun i hi => by
    by_cases hk : lv m.levels i = 30000
    · rw [(kall i hi).2 hk, hk]; exact Int.le_refl _
    · have a1 : lv (digL m.levels A (q - 2000)) i ≤ lv m.levels i := by rw [digL_lv hA1]; split <;> omega
      have a2 : lv (digL X B (r - 2000)) i ≤ lv X i := by rw [digL_lv (by omega)]; split <;> omega
      have k1 : lv (digL m.levels A (q - 2000)) i ≠ 30000 := fun e => hk ((kone i hi).1 e)
      have k2 : lv (digL X B (r - 2000)) i ≠ 30000 := fun e => k1 ((kX i hi).1 ((ktwo i hi).1 e))
      have a3 := (gX.below.2 i (by omega)).2 k1
      have a4 := (gY.below.2 i (by omega)).2 k2
      omega
  have eone := fallN_eq (b := m) (a := gridL m (digL m.levels A (q - 2000))) o1 kone m.levels.length (Nat.le_refl _)
  have etwo := fallN_eq (b := gridL m X) (a := gridL m (digL X B (r - 2000))) (by show (digL X B (r - 2000)).length = X.length; omega) (fun i hi => ktwo i (by have : i < X.length := hi; omega)) (gridL m X).levels.length (Nat.le_refl _)
  have eall := fallN_eq (b := m) (a := gridL m Y) lY kall m.levels.length (Nat.le_refl _)
  have hone : fallN m (gridL m (digL m.levels A (q - 2000))) m.levels.length = (total (-1) (digL m.levels A (q - 2000)) - total (-1) m.levels) * m.side * m.side := by
    rw [eone]
    show (total (-1) ((digL m.levels A (q - 2000)).take m.levels.length) - total (-1) (m.levels.take m.levels.length)) * m.side * m.side = _
    rw [List.take_of_length_le (by omega), List.take_of_length_le (by omega)]
  have htwo : fallN (gridL m X) (gridL m (digL X B (r - 2000))) (gridL m X).levels.length = (total (-1) (digL X B (r - 2000)) - total (-1) X) * m.side * m.side := by
    rw [etwo]
    show (total (-1) ((digL X B (r - 2000)).take X.length) - total (-1) (X.take X.length)) * m.side * m.side = _
    rw [List.take_of_length_le (by omega), List.take_of_length_le (by omega)]
  have hall : fallN m (gridL m Y) m.levels.length = (total (-1) Y - total (-1) m.levels) * m.side * m.side := by
    rw [eall]
    show (total (-1) (Y.take m.levels.length) - total (-1) (m.levels.take m.levels.length)) * m.side * m.side = _
    rw [List.take_of_length_le (by omega), List.take_of_length_le (by omega)]
  have b1 := fallN_bd hm hml o1 m.levels.length (Nat.le_refl _)
  have b2 := fallN_bd hmX hmt (by show (digL X B (r - 2000)).length = X.length; omega) (gridL m X).levels.length (Nat.le_refl _)
  have h33a : Contract Try.prog 33 [.agg (encGrid m), .agg (encG5 m ++ [.sl ((digL m.levels A (q - 2000)).map encInt)])] (.ret (.int .i64 (fallN m (gridL m (digL m.levels A (q - 2000))) m.levels.length))) := c33 m (gridL m (digL m.levels A (q - 2000))) hm hml o1
  have h33b : Contract Try.prog 33 [.agg (encG5 m ++ [.sl (X.map encInt)]), .agg (encG5 m ++ [.sl ((digL X B (r - 2000)).map encInt)])] (.ret (.int .i64 (fallN (gridL m X) (gridL m (digL X B (r - 2000))) (gridL m X).levels.length))) := c33 (gridL m X) (gridL m (digL X B (r - 2000))) hmX hmt (by show (digL X B (r - 2000)).length = X.length; omega)
  have hcf := cut_fall hm hmY lY hle m.levels.length (Nat.le_refl _)
  have hgY : gridE (gridL m Y) = 0 := gridE_setL hm0 lY rY
  have h68 : Contract Try.prog 68 [.agg (encGrid m), .agg (encG5 m ++ [.sl (Y.map encInt)])] (.ret (.tup [.agg [.int .i64 (fallN m (gridL m Y) m.levels.length), .int .i64 0, .int .i64 (unkN m (gridL m Y) m.levels.length)], .int .i64 0])) := by
    have := c68 m (gridL m Y) hm0 hgY (by simp [alikeE, gridL])
    rw [hcf.1, hcf.2] at this
    exact this
  have hgr2 : griddedE g [m, gridL m Y] = 0 := by
    unfold griddedE
    rw [if_neg (fun h => h hg0)]
    have e : firstOf ([m, gridL m Y].map gridE) = 0 := by simp [firstOf, hm0, hgY]
    rw [if_neg (fun h => h e)]
    show (if alikeE m (gridL m Y) = true then (0 : Int) else 10) = 0
    rw [if_pos (by simp [alikeE, gridL])]
  have h52 : Contract Try.prog 52 [.agg (encGround g), .agg (encGrid m), .agg (encG5 m ++ [.sl (Y.map encInt)])] (.ret (.tup [.fr 2 ((cellsS g m (gridL m Y) m.levels.length).map encShare), .int .i64 0])) := by
    have := c52 g hsl hbl m (gridL m Y) (by omega) (by show Y.length < 1000000000000; omega)
    rw [show sharesR g m (gridL m Y) = cellsS g m (gridL m Y) m.levels.length from if_pos hgr2, hgr2] at this
    exact this
  have hvol := volS_cells hg (a := gridL m Y) hle m.levels.length (Nat.le_refl _)
  have hVB := cellsS_VB hg hm hmY lY m.levels.length (Nat.le_refl _)
  have hcl := cellsS_len g m (gridL m Y) m.levels.length
  have h8 := soils_len hg
  have hsum : fallN m (gridL m Y) m.levels.length = fallN m (gridL m (digL m.levels A (q - 2000))) m.levels.length + fallN (gridL m X) (gridL m (digL X B (r - 2000))) (gridL m X).levels.length + va + vb := by
    rw [hone, htwo, hall, eva, evb, ← Int.add_mul, ← Int.add_mul, ← Int.add_mul, ← Int.add_mul, ← Int.add_mul, ← Int.add_mul]
    congr 2
    omega
  have b1' : -1000000000000000 ≤ fallN m (gridL m (digL m.levels A (q - 2000))) m.levels.length ∧ fallN m (gridL m (digL m.levels A (q - 2000))) m.levels.length ≤ 1000000000000000 := by omega
  have b2' : -1000000000000000 ≤ fallN (gridL m X) (gridL m (digL X B (r - 2000))) (gridL m X).levels.length ∧ fallN (gridL m X) (gridL m (digL X B (r - 2000))) (gridL m X).levels.length ≤ 1000000000000000 := by
    have e : (gridL m X).levels.length = m.levels.length := lX
    omega
  have hoL := o1
  have hpL := p1
  have hsL := s1
  have huL := u1
  have hVB' : VB (cellsS g m (gridL m Y) m.levels.length) 1440000000000000 := hVB.mono (by omega)
  exact walk15 g m x A B q r hl hsl' hbl' hq1 hr1 h24 h23 h28 h44a h44b h44t h44d _ _ _ _ va vb o1 lX p1 lY h67a h25a h67b h25b _ _ _ vc _ _ _ _ _ s1 u1 lZ h67c h67d h25c h32 h33a h33b h68 h52 va0 va1 vb0 vb1 vc0 b1' b2' hsum hvol (by omega) hVB'

theorem c15 (g : Ground) (m : Grid) (x : Dig) (hlm : m.levels.length ≤ 9223372036854775807) (h1 : g.soils.length ≤ 9223372036854775807) (h2 : g.borings.length ≤ 9223372036854775807) : Contract Try.prog 15 [.agg (encGround g), .agg (encGrid m), .agg (encDig x)] (.ret (.bool true)) := by
  by_cases h : m.levels.length ≤ 30 ∧ g.soils.length ≤ 10 ∧ g.borings.length ≤ 22 ∧ groundE g = 0 ∧ gridE m = 0
  · exact good15 g m x h.1 h.2.1 h.2.2.1 h.2.2.2.1 h.2.2.2.2
  · exact bad15 g m x hlm h1 h2 h
end Go.Pv.Soil

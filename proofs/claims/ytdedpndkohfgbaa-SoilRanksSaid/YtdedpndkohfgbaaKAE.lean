import Derived.Test.YtdedpndkohfgbaaProg
import Derived.Shelf.SlLaysZI
import Derived.Shelf.SlLaysM
import Derived.KernelRfl
import Derived.Test.YtdedpndkohfgbaaKAD
import Derived.RangeFuncBox
import Derived.RangeFuncLeaves
import Derived.WalkKit
import Derived.OwnWalkIn
import Derived.TacticsInMore
import Derived.LoopNIn
import Derived.LoopIn
import Derived.Shelf.SortM.SortNone
import Derived.Test.YtdedpndkohfgbaaKAC
/- Part of the proofs over Ytdedpndkohfgbaa: U2, U3, U4, U7, U5, SFacts, S1, S2, S3, S4. -/
set_option linter.unusedVariables false
set_option linter.unusedSimpArgs false
set_option linter.unnecessarySimpa false
open Go Go.Proofs Go.Shelf
set_option maxRecDepth 100000
namespace Go.Pv.Soil
def sortedI_ren : Go.Shelf.Ren := ⟨fun | 6 => 166 | 8 => 190 | 9 => 191 | 11 => 200 | 13 => 202 | 12 => 201 | 23 => 213 | 24 => 214 | 14 => 204 | 15 => 205 | 16 => 206 | 17 => 207 | 18 => 208 | 19 => 209 | 20 => 210 | 21 => 211 | 22 => 212 | 25 => 216 | 26 => 217 | 27 => 218 | 28 => 219 | 29 => 220 | 30 => 221 | 31 => 222 | n => n, fun | 26 => 3 | 28 => 220 | 24 => 33 | 0 => 0 | 3 => 3 | 37 => 238 | 48 => 248 | 50 => 250 | 4 => 4 | 40 => 241 | 39 => 240 | 45 => 224 | 5 => 5 | 9 => 9 | 51 => 251 | 55 => 255 | 57 => 257 | 58 => 258 | 33 => 78 | n => n, fun | n => n⟩
theorem sortedI : SlLaysZI.n6 Try.prog sortedI_ren := {
  mixed := by kernel_rfl,
  f6 := ⟨Try.f166.name, by decide, Try.func166.trans (congrArg some (by kernel_rfl))⟩,
  f8 := ⟨Try.f190.name, by decide, Try.func190.trans (congrArg some (by kernel_rfl))⟩,
  f11 := ⟨Try.f200.name, by decide, Try.func200.trans (congrArg some (by kernel_rfl))⟩,
  t0 := Try.underlying0,
  a0 := Try.isAgg0,
  z0 := Try.sizeOf0,
  v0 := Try.zeroValue0,
  t24 := Try.underlying33,
  a24 := Try.isAgg33,
  z24 := Try.sizeOf33,
  v24 := Try.zeroValue33,
  t26 := Try.underlying3,
  a26 := Try.isAgg3,
  z26 := Try.sizeOf3,
  v26 := Try.zeroValue3,
  t28 := Try.underlying220,
  a28 := Try.isAgg220,
  z28 := Try.sizeOf220,
  v28 := Try.zeroValue220,
  i26 := by kernel_rfl }
def sortI_ren : Go.Shelf.Ren := ⟨fun | 5 => 191 | 8 => 202 | 7 => 201 | 19 => 213 | 20 => 214 | 10 => 204 | 11 => 205 | 12 => 206 | 13 => 207 | 14 => 208 | 15 => 209 | 16 => 210 | 17 => 211 | 18 => 212 | 30 => 216 | 31 => 217 | 32 => 218 | 33 => 219 | 34 => 220 | 35 => 221 | 40 => 222 | n => n, fun | 23 => 33 | 25 => 3 | 3 => 3 | 32 => 238 | 22 => 33 | 0 => 0 | 44 => 248 | 46 => 250 | 4 => 4 | 36 => 241 | 35 => 240 | 41 => 224 | 5 => 5 | 9 => 9 | 53 => 251 | 57 => 255 | 63 => 257 | 64 => 258 | n => n, fun | n => n⟩
theorem sortI : SlLaysM.n5 Try.prog sortI_ren := {
  mixed := by kernel_rfl,
  f5 := ⟨Try.f191.name, by decide, Try.func191.trans (congrArg some (by kernel_rfl))⟩,
  f7 := ⟨Try.f201.name, by decide, Try.func201.trans (congrArg some (by kernel_rfl))⟩,
  f8 := Try.func202.trans (congrArg some (by kernel_rfl)),
  f10 := ⟨Try.f204.name, by decide, Try.func204.trans (congrArg some (by kernel_rfl))⟩,
  f11 := ⟨Try.f205.name, by decide, Try.func205.trans (congrArg some (by kernel_rfl))⟩,
  f12 := ⟨Try.f206.name, by decide, Try.func206.trans (congrArg some (by kernel_rfl))⟩,
  f13 := ⟨Try.f207.name, by decide, Try.func207.trans (congrArg some (by kernel_rfl))⟩,
  f14 := ⟨Try.f208.name, by decide, Try.func208.trans (congrArg some (by kernel_rfl))⟩,
  f15 := ⟨Try.f209.name, by decide, Try.func209.trans (congrArg some (by kernel_rfl))⟩,
  f16 := ⟨Try.f210.name, by decide, Try.func210.trans (congrArg some (by kernel_rfl))⟩,
  f17 := ⟨Try.f211.name, by decide, Try.func211.trans (congrArg some (by kernel_rfl))⟩,
  f18 := ⟨Try.f212.name, by decide, Try.func212.trans (congrArg some (by kernel_rfl))⟩,
  f19 := Try.func213.trans (congrArg some (by kernel_rfl)),
  f20 := Try.func214.trans (congrArg some (by kernel_rfl)),
  f30 := ⟨Try.f216.name, by decide, Try.func216.trans (congrArg some (by kernel_rfl))⟩,
  f31 := Try.func217.trans (congrArg some (by kernel_rfl)),
  f32 := Try.func218.trans (congrArg some (by kernel_rfl)),
  f33 := ⟨Try.f219.name, by decide, Try.func219.trans (congrArg some (by kernel_rfl))⟩,
  f34 := ⟨Try.f220.name, by decide, Try.func220.trans (congrArg some (by kernel_rfl))⟩,
  f35 := ⟨Try.f221.name, by decide, Try.func221.trans (congrArg some (by kernel_rfl))⟩,
  f40 := ⟨Try.f222.name, by decide, Try.func222.trans (congrArg some (by kernel_rfl))⟩,
  t0 := Try.underlying0,
  a0 := Try.isAgg0,
  z0 := Try.sizeOf0,
  v0 := Try.zeroValue0,
  t3 := Try.underlying3,
  a3 := Try.isAgg3,
  z3 := Try.sizeOf3,
  v3 := Try.zeroValue3,
  t4 := Try.underlying4,
  a4 := Try.isAgg4,
  z4 := Try.sizeOf4,
  v4 := Try.zeroValue4,
  t5 := Try.underlying5,
  a5 := Try.isAgg5,
  z5 := Try.sizeOf5,
  v5 := Try.zeroValue5,
  t9 := Try.underlying9,
  a9 := Try.isAgg9,
  z9 := Try.sizeOf9,
  v9 := Try.zeroValue9,
  t22 := Try.underlying33,
  a22 := Try.isAgg33,
  z22 := Try.sizeOf33,
  v22 := Try.zeroValue33,
  t23 := Try.underlying33,
  a23 := Try.isAgg33,
  z23 := Try.sizeOf33,
  v23 := Try.zeroValue33,
  t25 := Try.underlying3,
  a25 := Try.isAgg3,
  z25 := Try.sizeOf3,
  v25 := Try.zeroValue3,
  t32 := Try.underlying238,
  a32 := Try.isAgg238,
  z32 := Try.sizeOf238,
  v32 := Try.zeroValue238,
  t35 := Try.underlying240,
  a35 := Try.isAgg240,
  z35 := Try.sizeOf240,
  v35 := Try.zeroValue240,
  t36 := Try.underlying241,
  a36 := Try.isAgg241,
  z36 := Try.sizeOf241,
  v36 := Try.zeroValue241,
  t41 := Try.underlying224,
  a41 := Try.isAgg224,
  z41 := Try.sizeOf224,
  v41 := Try.zeroValue224,
  t44 := Try.underlying248,
  a44 := Try.isAgg248,
  z44 := Try.sizeOf248,
  v44 := Try.zeroValue248,
  t46 := Try.underlying250,
  a46 := Try.isAgg250,
  z46 := Try.sizeOf250,
  v46 := Try.zeroValue250,
  t53 := Try.underlying251,
  a53 := Try.isAgg251,
  z53 := Try.sizeOf251,
  v53 := Try.zeroValue251,
  t57 := Try.underlying255,
  a57 := Try.isAgg255,
  z57 := Try.sizeOf255,
  v57 := Try.zeroValue255,
  t63 := Try.underlying257,
  a63 := Try.isAgg257,
  z63 := Try.sizeOf257,
  v63 := Try.zeroValue257,
  t64 := Try.underlying258,
  a64 := Try.isAgg258,
  z64 := Try.sizeOf258,
  v64 := Try.zeroValue258 }
end Go.Pv.Soil

open Go Go.Proofs Go.Pv Go.RowKit Go.Shelf
attribute [local go_sem] Oper.semAt_some
set_option linter.unusedVariables false
namespace Go.Pv.Soil
/-- What has come behind k rounds. -/
def come (f : Nat → Int) (k : Nat) : List Int := (List.range k).map f
theorem come_succ (f : Nat → Int) (k : Nat) : come f (k + 1) = come f k ++ [f k] := by simp [come, List.range_succ]
theorem come_len (f : Nat → Int) (k : Nat) : (come f k).length = k := by simp [come]
theorem come_all (zs : List Int) : come (fun j => zs[j]?.getD 0) zs.length = zs := by
  apply List.ext_getElem
  · simp [come]
  · intro i h1 h2
    simp [come, h2]
set_option maxRecDepth 100000 in
set_option maxHeartbeats 2000000 in
theorem values_b (F : Fence) (n : Nat) (h7 : F.fn 192) (hro : F.round = none) (hn : 1 ≤ n) (w : World) (Bs b off len cap : Nat) (f : Nat → Int) (hreach : len * 8 ≤ 140737488351232) (hBl : Bs < w.heap.size) (hb : b < w.heap.size)
    (hBs : w.cell? ⟨Bs, 0, none⟩ = some (.slice (some ⟨b, off, none⟩) len cap)) (hc : ∀ j, j < len → w.cell? ⟨b, off + j, none⟩ = some (.int .i64 (f j))) :
    SeqB F n Try.prog 192 #[.pointer (some ⟨Bs, 0, none⟩)] (Value.int .i64) (fun ss => ss = come f len) len w := by
  intro l J W hW hJ hY h0
  have hBs' := (hW.cell (p := ⟨Bs, 0, none⟩) hBl).trans hBs
  refine callsIn_of_wp Try.func192 rfl h7 ?_ hro
  simp only [Try.ntmps192, List.size_toArray, List.length_cons, List.length_nil, Nat.reduceAdd, Nat.reduceSub, Array.replicate_succ, Array.replicate_zero, List.push_toArray, List.append_toArray, List.nil_append, List.cons_append]
  gi_wp2
  gi_loopw [7] (fun i wr => ∃ k : Nat, k ≤ len ∧ i = .int .i64 k ∧ J (come f k) wr)
    (fun i _ => len - (Go.Proofs.intOf i).toNat)
  case atStart => exact ⟨0, Nat.zero_le _, rfl, h0⟩
  case round =>
    obtain ⟨k, hk, rfl, hJs⟩ := hrel
    have hnx := hJ _ _ hJs
    have hcx : k < len → wr.cell? ⟨b, off + k, none⟩ = some (.int .i64 (f k)) := fun h => (hnx.cell (p := ⟨b, off + k, none⟩) hb).trans (hc k h)
    by_cases hlt : k < len
    · obtain ⟨fn, tmps, assign, body, hy, hR⟩ := hY _ (f k) wr hJs (by rw [come_len]; exact hlt)
      have hcx' := hcx hlt
      gi_wp2
      refine hR.mono ?_
      rintro e W3 ⟨rfl, hJ3, hk3⟩
      gi_wp2
      go_roundw
      case rel => exact ⟨k + 1, by omega, by simp, by rw [come_succ]; exact hJ3⟩
      case measure => simp [Go.Proofs.intOf]; omega
    · obtain rfl : k = len := by omega
      gi_wp2
      go_end0
      exact ⟨⟨_, rfl⟩, _, rfl, hJs⟩
end Go.Pv.Soil

open Go Go.Proofs Go.Pv Go.RowKit Go.Shelf
attribute [local go_sem] Oper.semAt_some
set_option linter.unusedVariables false
namespace Go.Pv.Soil
theorem sorts (m : Nat) : AnyZI.SortsIn Try.prog sortedI_ren Fence.wide m :=
  ⟨fun blk off cap ss W hH hblk hsz => callsIn_wide.2 (AnyM.slices_Sort_int sortI blk off cap ss W hH hblk hsz),
   fun p cap W => callsIn_wide.2 (AnyM.slices_Sort_int_none sortI p cap W)⟩
set_option maxHeartbeats 1000000 in
theorem values0 (F : Fence) (n : Nat) (h5 : F.fn 167) (hro : F.round = none) (a : Option Addr) (len cap : Nat) (w : World) :
    CallsIn F n Try.prog 167 #[.slice a len cap] w fun e w' => e = .returned (.func (.func 192) #[] #[.pointer (some ⟨w.heap.size, 0, none⟩)]) ∧ w' = w.alloc (.cells #[.slice a len cap] 33) := by
  refine callsIn_of_wp Try.func167 rfl h5 ?_ hro
  simp only [Try.ntmps167, List.size_toArray, List.length_cons, List.length_nil, Nat.reduceAdd, Nat.reduceSub, Array.replicate_succ, Array.replicate_zero, List.push_toArray, List.append_toArray, List.nil_append, List.cons_append]
  gi_wp2
  go_ret
  exact ⟨rfl, rfl⟩
end Go.Pv.Soil

/- Ranked values, without any program: the rank-th value of a sorted list. -/
namespace Go.Pv.Soil
theorem sortI_pw (l : List Int) : (l.mergeSort fun x y => decide (x ≤ y)).Pairwise fun a b => a ≤ b :=
  (List.pairwise_mergeSort (le := fun x y : Int => decide (x ≤ y)) (fun a b c h1 h2 => by simp at *; omega) (fun a b => by simp; omega) l).imp fun h => by simpa using h
theorem sortI_perm {l l' : List Int} (h : l.Perm l') : (l.mergeSort fun x y => decide (x ≤ y)) = l'.mergeSort fun x y => decide (x ≤ y) :=
  (((List.mergeSort_perm l _).trans h).trans (List.mergeSort_perm l' _).symm).eq_of_pairwise (fun a b _ _ h1 h2 => Int.le_antisymm h1 h2) (sortI_pw l) (sortI_pw l')
theorem cnt_low {s : List Int} (h : s.Pairwise fun a b => a ≤ b) {i : Nat} (hi : i < s.length) : i + 1 ≤ s.countP fun x => decide (x ≤ s[i]) := by
  have e : s = s.take (i + 1) ++ s.drop (i + 1) := (List.take_append_drop _ _).symm
  have h1 : (s.take (i + 1)).countP (fun x => decide (x ≤ s[i])) = (s.take (i + 1)).length := List.countP_eq_length.2 fun x hx => by
    obtain ⟨j, hj, rfl⟩ := List.mem_iff_getElem.1 hx
    rw [List.length_take] at hj
    rw [List.getElem_take]
    rcases Nat.lt_or_ge j i with hlt | hge
    · exact decide_eq_true (List.pairwise_iff_getElem.1 h j i (by omega) hi hlt)
    · have : j = i := by omega
      subst this
      simp
  have h2 : s.countP (fun x => decide (x ≤ s[i])) = (s.take (i + 1)).countP (fun x => decide (x ≤ s[i])) + (s.drop (i + 1)).countP (fun x => decide (x ≤ s[i])) := by
    rw [← List.countP_append, List.take_append_drop]
  rw [h2, h1, List.length_take]
  omega
theorem cnt_high {s : List Int} (h : s.Pairwise fun a b => a ≤ b) {i : Nat} (hi : i < s.length) {u : Int} (hu : u < s[i]) : (s.countP fun x => decide (x ≤ u)) ≤ i := by
  have h1 : (s.drop i).countP (fun x => decide (x ≤ u)) = 0 := List.countP_eq_zero.2 fun x hx => by
    obtain ⟨j, hj, rfl⟩ := List.mem_iff_getElem.1 hx
    rw [List.length_drop] at hj
    rw [List.getElem_drop]
    have : s[i] ≤ s[i + j] := by
      rcases Nat.eq_zero_or_pos j with rfl | hp
      · exact Int.le_refl _
      · exact List.pairwise_iff_getElem.1 h i (i + j) hi (by omega) (by omega)
    simp; omega
  have h2 : s.countP (fun x => decide (x ≤ u)) = (s.take i).countP (fun x => decide (x ≤ u)) + (s.drop i).countP (fun x => decide (x ≤ u)) := by
    rw [← List.countP_append, List.take_append_drop]
  have h3 := List.countP_le_length (p := fun x => decide (x ≤ u)) (l := s.take i)
  rw [List.length_take] at h3
  omega
/-- The rank-th value. -/
def rankI (zs : List Int) (num den : Int) : Int := (zs.mergeSort fun x y => decide (x ≤ y)).getD ((((zs.length : Int) * num + den - 1).tdiv den).toNat - 1) 0
/-- The rank, counted from 0, is a place in the list, and the first rank-th values are a part of num by den. -/
theorem rank_at (n : Nat) {num den : Int} (hn : 0 < n) (hd : 1 ≤ den) (hnum : 1 ≤ num ∧ num ≤ den) :
    ((((n : Int) * num + den - 1).tdiv den).toNat - 1 < n) ∧ (n : Int) * num ≤ (((((n : Int) * num + den - 1).tdiv den).toNat - 1 : Nat) + 1 : Int) * den := by
  have hp0 : num ≤ (n : Int) * num := by have := Int.mul_le_mul_of_nonneg_right (show (1 : Int) ≤ n by omega) (show 0 ≤ num by omega); omega
  have hp1 : (n : Int) * num ≤ n * den := Int.mul_le_mul_of_nonneg_left hnum.2 (by omega)
  rw [Int.tdiv_eq_ediv_of_nonneg (by omega)]
  have h1 : 1 ≤ ((n : Int) * num + den - 1) / den := (Int.le_ediv_iff_mul_le (by omega)).2 (by omega)
  have h2 : ((n : Int) * num + den - 1) / den < n + 1 := Int.ediv_lt_of_lt_mul (by omega) (by rw [Int.add_mul, Int.one_mul]; omega)
  generalize hq : ((n : Int) * num + den - 1) / den = q at *
  refine ⟨by omega, ?_⟩
  have e : (((q.toNat - 1 : Nat) : Int) + 1) = q := by omega
  rw [e]
  have h3 := Int.mul_ediv_add_emod ((n : Int) * num + den - 1) den
  have h4 := Int.emod_lt_of_pos ((n : Int) * num + den - 1) (show 0 < den by omega)
  rw [hq, Int.mul_comm] at h3
  omega
theorem rankI_perm {l l' : List Int} (h : l.Perm l') (num den : Int) : rankI l num den = rankI l' num den := by
  unfold rankI
  rw [sortI_perm h, h.length_eq]
theorem rankI_get {l : List Int} {num den : Int} (hn : 0 < l.length) (hd : 1 ≤ den) (hnum : 1 ≤ num ∧ num ≤ den) :
    ∃ h : (((l.length : Int) * num + den - 1).tdiv den).toNat - 1 < (l.mergeSort fun x y => decide (x ≤ y)).length, rankI l num den = (l.mergeSort fun x y => decide (x ≤ y))[(((l.length : Int) * num + den - 1).tdiv den).toNat - 1] := by
  have h := (rank_at l.length hn hd hnum).1
  have h' : (((l.length : Int) * num + den - 1).tdiv den).toNat - 1 < (l.mergeSort fun x y => decide (x ≤ y)).length := by rw [List.length_mergeSort]; exact h
  refine ⟨h', ?_⟩
  unfold rankI
  rw [List.getD_eq_getElem?_getD, List.getElem?_eq_getElem h']
  rfl
theorem rankI_mem {l : List Int} {num den : Int} (hn : 0 < l.length) (hd : 1 ≤ den) (hnum : 1 ≤ num ∧ num ≤ den) : rankI l num den ∈ l := by
  obtain ⟨h, e⟩ := rankI_get hn hd hnum
  rw [e]
  exact (List.mergeSort_perm l _).mem_iff.1 (List.getElem_mem h)
theorem cnt_sort (l : List Int) (u : Int) : (l.mergeSort fun x y => decide (x ≤ y)).countP (fun x => decide (x ≤ u)) = l.countP fun x => decide (x ≤ u) :=
  (List.mergeSort_perm l _).countP_eq _
theorem rankI_cnt {l : List Int} {num den : Int} (hn : 0 < l.length) (hd : 1 ≤ den) (hnum : 1 ≤ num ∧ num ≤ den) :
    (((l.length : Int) * num + den - 1).tdiv den).toNat - 1 + 1 ≤ l.countP fun x => decide (x ≤ rankI l num den) := by
  obtain ⟨h, e⟩ := rankI_get hn hd hnum
  rw [← cnt_sort, e]
  exact cnt_low (sortI_pw l) h
/-- As many as the rank says are at most the ranked value. -/
theorem rankI_most {l : List Int} {num den : Int} (hn : 0 < l.length) (hd : 1 ≤ den) (hnum : 1 ≤ num ∧ num ≤ den) :
    (l.length : Int) * num ≤ ((l.countP fun x => decide (x ≤ rankI l num den) : Nat) : Int) * den := by
  have h1 := rankI_cnt hn hd hnum
  have h2 := (rank_at l.length hn hd hnum).2
  refine Int.le_trans h2 (Int.mul_le_mul_of_nonneg_right (by omega) (by omega))
/-- The ranked value is the least one that so many are at most. -/
theorem rankI_least {l : List Int} {num den : Int} (hn : 0 < l.length) (hd : 1 ≤ den) (hnum : 1 ≤ num ∧ num ≤ den) {u : Int}
    (hu : (((l.length : Int) * num + den - 1).tdiv den).toNat - 1 + 1 ≤ l.countP fun x => decide (x ≤ u)) : rankI l num den ≤ u := by
  obtain ⟨h, e⟩ := rankI_get hn hd hnum
  rcases Int.lt_or_le u (rankI l num den) with hlt | hle
  · rw [e] at hlt
    have := cnt_high (sortI_pw l) h hlt
    rw [cnt_sort] at this
    omega
  · exact hle
/-- It does not fall if the first value grows. -/
theorem rankI_grow {a a' : Int} {l : List Int} {num den : Int} (h : a ≤ a') (hd : 1 ≤ den) (hnum : 1 ≤ num ∧ num ≤ den) : rankI (a :: l) num den ≤ rankI (a' :: l) num den := by
  refine rankI_least (by simp) hd hnum ?_
  have h1 := rankI_cnt (l := a' :: l) (by simp) hd hnum
  refine Nat.le_trans h1 ?_
  rw [List.countP_cons, List.countP_cons]
  by_cases hc : a' ≤ rankI (a' :: l) num den
  · rw [if_pos (by simpa using hc), if_pos (by simp; omega)]
    exact Nat.le_refl _
  · rw [if_neg (by simpa using hc)]
    omega
/-- Whether a rule is one. -/
def ruleOK (num den least : Int) : Bool := decide ((1 ≤ den ∧ den ≤ 1000) ∧ (1 ≤ num ∧ num ≤ den) ∧ 1 ≤ least ∧ least ≤ 60)
def inV (n : Int) : Bool := decide (0 ≤ n ∧ n ≤ 1000000000)
/-- The ranked value, or the error. -/
def rankedR (l : List Int) (num den least : Int) : Int × Int :=
  if ruleOK num den least = false then (0, 2) else if 60 < l.length then (0, 8) else if l.all inV = false then (0, 2) else if (l.length : Int) < least then (0, 11) else (rankI l num den, 0)
end Go.Pv.Soil

open Go Go.Proofs Go.Pv Go.RowKit Go.Shelf
attribute [local go_sem] Oper.semAt_some
set_option linter.unusedVariables false
namespace Go.Pv.Soil
set_option maxRecDepth 100000 in
set_option maxHeartbeats 2000000 in
theorem ranked_in (F : Fence) (h0 : F.fn 126) (h1 : F.fn 167) (h2 : F.fn 192) (h3 : F.fn 166) (h4 : F.fn 190) (h5 : F.fn 191) (h6 : F.fn 200) (hro : F.round = none) (hsort : AnyZI.SortsIn Try.prog sortedI_ren F 6) (b off cap : Nat) (zs : List Int) (num den least : Int) (hn : 0 < zs.length) (h60 : zs.length ≤ 60) (hl : least ≤ zs.length) (hd : 1 ≤ den ∧ den ≤ 1000) (hnum : 1 ≤ num ∧ num ≤ den) (w : World) (hb : b < w.heap.size)
    (hc : ∀ j, j < zs.length → w.cell? ⟨b, off + j, none⟩ = some (.int .i64 (zs[j]?.getD 0))) :
    CallsIn F 8 Try.prog 126 #[.slice (some ⟨b, off, none⟩) zs.length cap, .agg #[.int .i64 num, .int .i64 den, .int .i64 least]] w fun e w' =>
      e = .returned (.tuple #[.int .i64 (rankI zs num den), .int .i64 0]) ∧ Go.RowKit.Below w.heap.size w w' := by
  have hall : come (fun j : Nat => zs[j]?.getD 0) zs.length = zs := come_all zs
  unfold rankI
  rw [← hall]
  rw [come_len]
  generalize hm : zs.length = len at *
  generalize hf : (fun j : Nat => zs[j]?.getD 0) = f at *
  have hc' : ∀ j, j < len → w.cell? ⟨b, off + j, none⟩ = some (.int .i64 (f j)) := fun j hj => by rw [← hf]; exact hc j hj
  clear hc
  refine callsIn_of_wp Try.func126 rfl h0 ?_ hro
  simp only [Try.ntmps126, List.size_toArray, List.length_cons, List.length_nil, Nat.reduceAdd, Nat.reduceSub, Array.replicate_succ, Array.replicate_zero, List.push_toArray, List.append_toArray, List.nil_append, List.cons_append]
  have hseq : ∀ (W : World), Go.RowKit.Below w.heap.size w W → SeqB F (7 - 1 - 1 - 1) Try.prog 192 #[.pointer (some ⟨W.heap.size, 0, none⟩)] encZ (fun ss => ss = come f len) len (W.alloc (.cells #[.slice (some ⟨b, off, none⟩) len cap] 33)) := fun W hW => by
    have hW1 : Go.RowKit.Below w.heap.size w (W.alloc (.cells #[.slice (some ⟨b, off, none⟩) len cap] 33)) := hW.alloc hW.size _
    refine values_b F _ h2 hro (by omega) _ W.heap.size b off len cap f (by omega) (by simp) (by have := hW1.size; omega) ?_ fun j hj => (hW1.cell (p := ⟨b, off + j, none⟩) hb).trans (hc' j hj)
    have := World.alloc_heap_new W (.cells #[.slice (some ⟨b, off, none⟩) len cap] 33)
    simp only [World.cell?, this]
    rfl
  have hsrt : ∀ (W : World) (B : Nat), W.heap.size = B → Go.RowKit.Below w.heap.size w W → CallsIn F 7 Try.prog 166 #[.func (.func 192) #[] #[.pointer (some ⟨B, 0, none⟩)]] (W.alloc (.cells #[.slice (some ⟨b, off, none⟩) len cap] 33)) fun e w' =>
      ∃ v, e = .returned v ∧ w'.ownsRow (W.heap.size + 1) 3 1 v len (((come f len).mergeSort (fun x y => decide (x ≤ y))).map encZ) ∧ Go.RowKit.Below (W.heap.size + 1) (W.alloc (.cells #[.slice (some ⟨b, off, none⟩) len cap] 33)) w' := fun W B hB hW => by
    subst hB
    have h := sorted_b sortedI F 7 h3 h4 h5 h6 hro (by omega) hsort (enters_of Try.func191 (by kernel_rfl) rfl) 192 _ h2 (enters_of Try.func192 (by kernel_rfl) rfl) _ len (by simp [maxLen]; omega) (by omega) _ (hseq W hW)
    refine h.mono ?_
    rintro e w' ⟨v, ss, rfl, rfl, hrow, hnil, hbw⟩
    rw [come_len, World.size_alloc] at hrow
    rw [World.size_alloc] at hbw
    exact ⟨v, rfl, hrow, hbw⟩
  clear hseq hsort
  have hb1 : ∀ c t, Go.RowKit.Below w.heap.size w (w.alloc (.cells c t)) := fun c t => (Go.RowKit.Below.refl _ w).alloc (Nat.le_refl _) _
  have hbox : ∀ (c : Array Value) (t : TypeId) (w' : World), Go.RowKit.Below (w.heap.size + 2) ((w.alloc (.cells #[.int .i64 num, .int .i64 den, .int .i64 least] 119)).alloc (.cells c t)) w' →
      w'.cell? ⟨w.heap.size, 0, none⟩ = some (.int .i64 num) ∧ w'.cell? ⟨w.heap.size, 1, none⟩ = some (.int .i64 den) := fun c t w' h => by
    have h1 := h.block w.heap.size (by omega)
    have h2 := Go.RowKit.Below.heap_alloc (w.alloc (.cells #[.int .i64 num, .int .i64 den, .int .i64 least] 119)) (.cells c t) w.heap.size (by simp)
    have h3 := World.alloc_heap_new w (.cells #[.int .i64 num, .int .i64 den, .int .i64 least] 119)
    have h4 := h1.trans (h2.trans h3)
    refine ⟨?_, ?_⟩ <;> (simp only [World.cell?, h4]; rfl)
  have hp0 : num ≤ (len : Int) * num := by have := Int.mul_le_mul_of_nonneg_right (show (1 : Int) ≤ len by omega) (show 0 ≤ num by omega); omega
  have hp1 : (len : Int) * num ≤ len * den := Int.mul_le_mul_of_nonneg_left hnum.2 (by omega)
  have hp2 : (len : Int) * den ≤ 60000 := by have := Int.mul_le_mul (show (len : Int) ≤ 60 by omega) hd.2 (by omega) (by omega); omega
  have hq : 1 ≤ ((len : Int) * num + den - 1).tdiv den ∧ ((len : Int) * num + den - 1).tdiv den ≤ len := by
    rw [Int.tdiv_eq_ediv_of_nonneg (by omega)]
    refine ⟨(Int.le_ediv_iff_mul_le (by omega)).2 (by omega), ?_⟩
    have : ((len : Int) * num + den - 1) / den < len + 1 := Int.ediv_lt_of_lt_mul (by omega) (by rw [Int.add_mul, Int.one_mul]; omega)
    omega
  have w1 : RowKit.wrap64 ((len : Int) * num) = len * num := by simp only [RowKit.wrap64]; omega
  have w2 : RowKit.wrap64 ((len : Int) * num + den) = len * num + den := by simp only [RowKit.wrap64]; omega
  have w3 : RowKit.wrap64 ((len : Int) * num + den - 1) = len * num + den - 1 := by simp only [RowKit.wrap64]; omega
  have hcur : ∀ (cur : Array Value) (w' : World) (gb : Nat), w'.heap[gb]? = some (.cells cur 3 (0, 0)) → cur.toList.take (len * 1) = ((come f len).mergeSort fun x y => decide (x ≤ y)).map encZ →
      w'.cell? ⟨gb, (((len : Int) * num + den - 1).tdiv den).toNat - 1, none⟩ = some (.int .i64 (((come f len).mergeSort fun x y => decide (x ≤ y)).getD ((((len : Int) * num + den - 1).tdiv den).toNat - 1) 0)) := fun cur w' gb hgb hr => by
    have hi : (((len : Int) * num + den - 1).tdiv den).toNat - 1 < len := by omega
    generalize (((len : Int) * num + den - 1).tdiv den).toNat - 1 = i at *
    have hsl : ((come f len).mergeSort fun x y => decide (x ≤ y)).length = len := by rw [List.length_mergeSort, come_len]
    generalize ((come f len).mergeSort fun x y => decide (x ≤ y)) = S at *
    have h1 : (cur.toList.take (len * 1))[i]? = (S.map encZ)[i]? := by rw [hr]
    rw [List.getElem?_take_of_lt (by omega), List.getElem?_map, List.getElem?_eq_getElem (l := S) (i := i) (by omega)] at h1
    simp only [World.cell?, hgb]
    rw [List.getD_eq_getElem?_getD, List.getElem?_eq_getElem (l := S) (i := i) (by omega)]
    simpa using h1
  gi_wp2_with (first
    | (gi_at_call 167; refine (values0 F 7 h1 hro _ _ _ _).mono ?_; rintro e w' ⟨rfl, rfl⟩)
    | (gi_at_call 166; refine (hsrt _ _ (by simp) (hb1 _ _)).mono ?_; rintro e w' ⟨v, rfl, hrow, hbw⟩; (rcases hrow.2 with ⟨rfl, hz⟩ | ⟨gb, cap2, cur, rfl, hbase, hgb, r1, r2, r3, r4⟩); (exact absurd hz (by omega)); (obtain ⟨q0, q1⟩ := hbox _ _ _ (by simpa using hbw)); (have q2 := hcur _ _ _ hgb r4)))
  refine bodyPost_ret (results_tmp2 rfl _ _ _) rfl ?_
  exact ⟨by rw [hall, List.getD_eq_getElem?_getD]; rfl, ((hb1 _ _).alloc (hb1 _ _).size _).trans (hbw.mono (by simp; omega))⟩
end Go.Pv.Soil

open Go Go.Proofs Go.Pv
namespace Go.Pv.Tf
instance tsh0 : TSh Try.prog 0 .one := ⟨by kernel_rfl⟩
instance tcl0 : TCells Try.prog 0 1 := ⟨by kernel_rfl, by decide⟩
instance tsh1 : TSh Try.prog 1 .one := ⟨by kernel_rfl⟩
instance tcl1 : TCells Try.prog 1 1 := ⟨by kernel_rfl, by decide⟩
instance tze1 : TZero Try.prog 1 (.nilfunc) := ⟨by kernel_rfl, rfl, by decide⟩
instance tsh2 : TSh Try.prog 2 .one := ⟨by kernel_rfl⟩
instance tcl2 : TCells Try.prog 2 1 := ⟨by kernel_rfl, by decide⟩
instance tze2 : TZero Try.prog 2 (.int .i64 0) := ⟨by kernel_rfl, rfl, by decide⟩
instance tsh3 : TSh Try.prog 3 .one := ⟨by kernel_rfl⟩
instance tcl3 : TCells Try.prog 3 1 := ⟨by kernel_rfl, by decide⟩
instance tze3 : TZero Try.prog 3 (.int .i64 0) := ⟨by kernel_rfl, rfl, by decide⟩
instance tsh4 : TSh Try.prog 4 .one := ⟨by kernel_rfl⟩
instance tcl4 : TCells Try.prog 4 1 := ⟨by kernel_rfl, by decide⟩
instance tze4 : TZero Try.prog 4 (.bool false) := ⟨by kernel_rfl, rfl, by decide⟩
instance tsh5 : TSh Try.prog 5 .one := ⟨by kernel_rfl⟩
instance tcl5 : TCells Try.prog 5 1 := ⟨by kernel_rfl, by decide⟩
instance tze5 : TZero Try.prog 5 (.int .u8 0) := ⟨by kernel_rfl, rfl, by decide⟩
instance tsh6 : TSh Try.prog 6 .one := ⟨by kernel_rfl⟩
instance tcl6 : TCells Try.prog 6 1 := ⟨by kernel_rfl, by decide⟩
instance tze6 : TZero Try.prog 6 (.int .u8 0) := ⟨by kernel_rfl, rfl, by decide⟩
instance tsh7 : TSh Try.prog 7 (.many 4) := ⟨by kernel_rfl⟩
instance tcl7 : TCells Try.prog 7 4 := ⟨by kernel_rfl, by decide⟩
instance tfl7x0 : TField Try.prog 7 0 0 2 := ⟨by kernel_rfl, kne (k := 1) (by kernel_rfl) (by decide)⟩
instance tfl7x1 : TField Try.prog 7 1 1 3 := ⟨by kernel_rfl, kne (k := 1) (by kernel_rfl) (by decide)⟩
instance tfl7x2 : TField Try.prog 7 2 2 4 := ⟨by kernel_rfl, kne (k := 1) (by kernel_rfl) (by decide)⟩
instance tfl7x3 : TField Try.prog 7 3 3 6 := ⟨by kernel_rfl, kne (k := 1) (by kernel_rfl) (by decide)⟩
instance tly7 : TLay Try.prog 7 [.int .i64 0, .int .i64 0, .bool false, .int .u8 0] [(0, 1), (1, 1), (2, 1), (3, 1)] := ⟨by kernel_rfl⟩
instance tze7 : TZero Try.prog 7 (.agg [.int .i64 0, .int .i64 0, .bool false, .int .u8 0]) := ⟨by kernel_rfl, rfl, by decide⟩
instance tsh8 : TSh Try.prog 8 (.many 4) := ⟨by kernel_rfl⟩
instance tcl8 : TCells Try.prog 8 4 := ⟨by kernel_rfl, by decide⟩
instance tfl8x0 : TField Try.prog 8 0 0 2 := ⟨by kernel_rfl, kne (k := 1) (by kernel_rfl) (by decide)⟩
instance tfl8x1 : TField Try.prog 8 1 1 3 := ⟨by kernel_rfl, kne (k := 1) (by kernel_rfl) (by decide)⟩
instance tfl8x2 : TField Try.prog 8 2 2 4 := ⟨by kernel_rfl, kne (k := 1) (by kernel_rfl) (by decide)⟩
instance tfl8x3 : TField Try.prog 8 3 3 6 := ⟨by kernel_rfl, kne (k := 1) (by kernel_rfl) (by decide)⟩
instance tly8 : TLay Try.prog 8 [.int .i64 0, .int .i64 0, .bool false, .int .u8 0] [(0, 1), (1, 1), (2, 1), (3, 1)] := ⟨by kernel_rfl⟩
instance tze8 : TZero Try.prog 8 (.agg [.int .i64 0, .int .i64 0, .bool false, .int .u8 0]) := ⟨by kernel_rfl, rfl, by decide⟩
instance tsh9 : TSh Try.prog 9 .one := ⟨by kernel_rfl⟩
instance tst9 : TStr Try.prog 9 := ⟨by kernel_rfl⟩
instance tcl9 : TCells Try.prog 9 1 := ⟨by kernel_rfl, by decide⟩
instance tze9 : TZero Try.prog 9 (.str ByteArray.empty) := ⟨by kernel_rfl, rfl, by decide⟩
instance tsh10 : TSh Try.prog 10 .one := ⟨by kernel_rfl⟩
instance tst10 : TStr Try.prog 10 := ⟨by kernel_rfl⟩
instance tcl10 : TCells Try.prog 10 1 := ⟨by kernel_rfl, by decide⟩
instance tze10 : TZero Try.prog 10 (.str ByteArray.empty) := ⟨by kernel_rfl, rfl, by decide⟩
instance tsh11 : TSh Try.prog 11 .one := ⟨by kernel_rfl⟩
instance tst11 : TStr Try.prog 11 := ⟨by kernel_rfl⟩
instance tcl11 : TCells Try.prog 11 1 := ⟨by kernel_rfl, by decide⟩
instance tze11 : TZero Try.prog 11 (.str ByteArray.empty) := ⟨by kernel_rfl, rfl, by decide⟩
instance tsh12 : TSh Try.prog 12 .one := ⟨by kernel_rfl⟩
instance tcl12 : TCells Try.prog 12 1 := ⟨by kernel_rfl, by decide⟩
instance tze12 : TZero Try.prog 12 (.int .u64 0) := ⟨by kernel_rfl, rfl, by decide⟩
instance tsh13 : TSh Try.prog 13 (.many 2) := ⟨by kernel_rfl⟩
instance tcl13 : TCells Try.prog 13 2 := ⟨by kernel_rfl, by decide⟩
instance tfl13x0 : TField Try.prog 13 0 0 9 := ⟨by kernel_rfl, kne (k := 1) (by kernel_rfl) (by decide)⟩
instance tfl13x1 : TField Try.prog 13 1 1 12 := ⟨by kernel_rfl, kne (k := 1) (by kernel_rfl) (by decide)⟩
instance tly13 : TLay Try.prog 13 [.str ByteArray.empty, .int .u64 0] [(0, 1), (1, 1)] := ⟨by kernel_rfl⟩
instance tze13 : TZero Try.prog 13 (.agg [.str ByteArray.empty, .int .u64 0]) := ⟨by kernel_rfl, rfl, by decide⟩
instance tsh14 : TSh Try.prog 14 (.many 2) := ⟨by kernel_rfl⟩
instance tcl14 : TCells Try.prog 14 2 := ⟨by kernel_rfl, by decide⟩
instance tfl14x0 : TField Try.prog 14 0 0 9 := ⟨by kernel_rfl, kne (k := 1) (by kernel_rfl) (by decide)⟩
instance tfl14x1 : TField Try.prog 14 1 1 12 := ⟨by kernel_rfl, kne (k := 1) (by kernel_rfl) (by decide)⟩
instance tly14 : TLay Try.prog 14 [.str ByteArray.empty, .int .u64 0] [(0, 1), (1, 1)] := ⟨by kernel_rfl⟩
instance tze14 : TZero Try.prog 14 (.agg [.str ByteArray.empty, .int .u64 0]) := ⟨by kernel_rfl, rfl, by decide⟩
instance tsh15 : TSh Try.prog 15 .one := ⟨by kernel_rfl⟩
instance tcl15 : TCells Try.prog 15 1 := ⟨by kernel_rfl, by decide⟩
instance tze15 : TZero Try.prog 15 (.nilptr) := ⟨by kernel_rfl, rfl, by decide⟩
instance tsh16 : TSh Try.prog 16 .one := ⟨by kernel_rfl⟩
instance tcl16 : TCells Try.prog 16 1 := ⟨by kernel_rfl, by decide⟩
instance tze16 : TZero Try.prog 16 (.nilptr) := ⟨by kernel_rfl, rfl, by decide⟩
instance tsh17 : TSh Try.prog 17 .one := ⟨by kernel_rfl⟩
instance tcl17 : TCells Try.prog 17 1 := ⟨by kernel_rfl, by decide⟩
instance tze17 : TZero Try.prog 17 (.nilptr) := ⟨by kernel_rfl, rfl, by decide⟩
instance tsh18 : TSh Try.prog 18 (.many 1) := ⟨by kernel_rfl⟩
instance tcl18 : TCells Try.prog 18 1 := ⟨by kernel_rfl, by decide⟩
instance tfl18x0 : TField Try.prog 18 0 0 17 := ⟨by kernel_rfl, kne (k := 1) (by kernel_rfl) (by decide)⟩
instance tly18 : TLay Try.prog 18 [.nilptr] [(0, 1)] := ⟨by kernel_rfl⟩
instance tze18 : TZero Try.prog 18 (.agg [.nilptr]) := ⟨by kernel_rfl, rfl, by decide⟩
instance tsh19 : TSh Try.prog 19 (.many 1) := ⟨by kernel_rfl⟩
instance tcl19 : TCells Try.prog 19 1 := ⟨by kernel_rfl, by decide⟩
instance tfl19x0 : TField Try.prog 19 0 0 17 := ⟨by kernel_rfl, kne (k := 1) (by kernel_rfl) (by decide)⟩
instance tly19 : TLay Try.prog 19 [.nilptr] [(0, 1)] := ⟨by kernel_rfl⟩
instance tze19 : TZero Try.prog 19 (.agg [.nilptr]) := ⟨by kernel_rfl, rfl, by decide⟩
instance tsh20 : TSh Try.prog 20 .one := ⟨by kernel_rfl⟩
instance tcl20 : TCells Try.prog 20 1 := ⟨by kernel_rfl, by decide⟩
instance tze20 : TZero Try.prog 20 (.nilif) := ⟨by kernel_rfl, rfl, by decide⟩
instance tsh21 : TSh Try.prog 21 .one := ⟨by kernel_rfl⟩
instance tcl21 : TCells Try.prog 21 1 := ⟨by kernel_rfl, by decide⟩
instance tze21 : TZero Try.prog 21 (.int .i32 0) := ⟨by kernel_rfl, rfl, by decide⟩
instance tsh22 : TSh Try.prog 22 .one := ⟨by kernel_rfl⟩
instance tcl22 : TCells Try.prog 22 1 := ⟨by kernel_rfl, by decide⟩
instance tsl22 : TSlice Try.prog 22 49 5 := ⟨by kernel_rfl, by kernel_rfl, by decide⟩
instance tze22 : TZero Try.prog 22 (.nilsl) := ⟨by kernel_rfl, rfl, by decide⟩
instance tsh23 : TSh Try.prog 23 .one := ⟨by kernel_rfl⟩
instance tcl23 : TCells Try.prog 23 1 := ⟨by kernel_rfl, by decide⟩
instance tsl23 : TSlice Try.prog 23 140 4 := ⟨by kernel_rfl, by kernel_rfl, by decide⟩
instance tze23 : TZero Try.prog 23 (.nilsl) := ⟨by kernel_rfl, rfl, by decide⟩
instance tsh24 : TSh Try.prog 24 (.many 2) := ⟨by kernel_rfl⟩
instance tcl24 : TCells Try.prog 24 2 := ⟨by kernel_rfl, by decide⟩
instance tfl24x0 : TField Try.prog 24 0 0 22 := ⟨by kernel_rfl, kne (k := 1) (by kernel_rfl) (by decide)⟩
instance tfl24x1 : TField Try.prog 24 1 1 23 := ⟨by kernel_rfl, kne (k := 1) (by kernel_rfl) (by decide)⟩
instance tly24 : TLay Try.prog 24 [.nilsl, .nilsl] [(0, 1), (1, 1)] := ⟨by kernel_rfl⟩
instance tze24 : TZero Try.prog 24 (.agg [.nilsl, .nilsl]) := ⟨by kernel_rfl, rfl, by decide⟩
instance tsh25 : TSh Try.prog 25 (.many 2) := ⟨by kernel_rfl⟩
instance tcl25 : TCells Try.prog 25 2 := ⟨by kernel_rfl, by decide⟩
instance tfl25x0 : TField Try.prog 25 0 0 22 := ⟨by kernel_rfl, kne (k := 1) (by kernel_rfl) (by decide)⟩
instance tfl25x1 : TField Try.prog 25 1 1 23 := ⟨by kernel_rfl, kne (k := 1) (by kernel_rfl) (by decide)⟩
instance tly25 : TLay Try.prog 25 [.nilsl, .nilsl] [(0, 1), (1, 1)] := ⟨by kernel_rfl⟩
instance tze25 : TZero Try.prog 25 (.agg [.nilsl, .nilsl]) := ⟨by kernel_rfl, rfl, by decide⟩
instance tsh26 : TSh Try.prog 26 .one := ⟨by kernel_rfl⟩
instance tcl26 : TCells Try.prog 26 1 := ⟨by kernel_rfl, by decide⟩
instance tze26 : TZero Try.prog 26 (.nilfunc) := ⟨by kernel_rfl, rfl, by decide⟩
instance tsh27 : TSh Try.prog 27 .one := ⟨by kernel_rfl⟩
instance tcl27 : TCells Try.prog 27 1 := ⟨by kernel_rfl, by decide⟩
instance tze27 : TZero Try.prog 27 (.nilfunc) := ⟨by kernel_rfl, rfl, by decide⟩
instance tsh28 : TSh Try.prog 28 .one := ⟨by kernel_rfl⟩
instance tcl28 : TCells Try.prog 28 1 := ⟨by kernel_rfl, by decide⟩
instance tze28 : TZero Try.prog 28 (.int .i64 0) := ⟨by kernel_rfl, rfl, by decide⟩
instance tsh29 : TSh Try.prog 29 .one := ⟨by kernel_rfl⟩
instance tcl29 : TCells Try.prog 29 1 := ⟨by kernel_rfl, by decide⟩
instance tze29 : TZero Try.prog 29 (.nilfunc) := ⟨by kernel_rfl, rfl, by decide⟩
instance tsh30 : TSh Try.prog 30 .one := ⟨by kernel_rfl⟩
instance tcl30 : TCells Try.prog 30 1 := ⟨by kernel_rfl, by decide⟩
instance tze30 : TZero Try.prog 30 (.nilfunc) := ⟨by kernel_rfl, rfl, by decide⟩
instance tsh31 : TSh Try.prog 31 .one := ⟨by kernel_rfl⟩
instance tcl31 : TCells Try.prog 31 1 := ⟨by kernel_rfl, by decide⟩
instance tze31 : TZero Try.prog 31 (.nilfunc) := ⟨by kernel_rfl, rfl, by decide⟩
instance tsh32 : TSh Try.prog 32 .one := ⟨by kernel_rfl⟩
instance tcl32 : TCells Try.prog 32 1 := ⟨by kernel_rfl, by decide⟩
instance tze32 : TZero Try.prog 32 (.nilfunc) := ⟨by kernel_rfl, rfl, by decide⟩
instance tsh33 : TSh Try.prog 33 .one := ⟨by kernel_rfl⟩
instance tcl33 : TCells Try.prog 33 1 := ⟨by kernel_rfl, by decide⟩
instance tsl33 : TSlice Try.prog 33 3 1 := ⟨by kernel_rfl, by kernel_rfl, by decide⟩
instance tze33 : TZero Try.prog 33 (.nilsl) := ⟨by kernel_rfl, rfl, by decide⟩
instance tsh34 : TSh Try.prog 34 (.many 6) := ⟨by kernel_rfl⟩
instance tcl34 : TCells Try.prog 34 6 := ⟨by kernel_rfl, by decide⟩
instance tfl34x0 : TField Try.prog 34 0 0 3 := ⟨by kernel_rfl, kne (k := 1) (by kernel_rfl) (by decide)⟩
instance tfl34x1 : TField Try.prog 34 1 1 3 := ⟨by kernel_rfl, kne (k := 1) (by kernel_rfl) (by decide)⟩
instance tfl34x2 : TField Try.prog 34 2 2 3 := ⟨by kernel_rfl, kne (k := 1) (by kernel_rfl) (by decide)⟩
instance tfl34x3 : TField Try.prog 34 3 3 3 := ⟨by kernel_rfl, kne (k := 1) (by kernel_rfl) (by decide)⟩
instance tfl34x4 : TField Try.prog 34 4 4 3 := ⟨by kernel_rfl, kne (k := 1) (by kernel_rfl) (by decide)⟩
instance tfl34x5 : TField Try.prog 34 5 5 33 := ⟨by kernel_rfl, kne (k := 1) (by kernel_rfl) (by decide)⟩
instance tly34 : TLay Try.prog 34 [.int .i64 0, .int .i64 0, .int .i64 0, .int .i64 0, .int .i64 0, .nilsl] [(0, 1), (1, 1), (2, 1), (3, 1), (4, 1), (5, 1)] := ⟨by kernel_rfl⟩
instance tze34 : TZero Try.prog 34 (.agg [.int .i64 0, .int .i64 0, .int .i64 0, .int .i64 0, .int .i64 0, .nilsl]) := ⟨by kernel_rfl, rfl, by decide⟩
instance tsh35 : TSh Try.prog 35 (.many 6) := ⟨by kernel_rfl⟩
instance tcl35 : TCells Try.prog 35 6 := ⟨by kernel_rfl, by decide⟩
instance tfl35x0 : TField Try.prog 35 0 0 3 := ⟨by kernel_rfl, kne (k := 1) (by kernel_rfl) (by decide)⟩
instance tfl35x1 : TField Try.prog 35 1 1 3 := ⟨by kernel_rfl, kne (k := 1) (by kernel_rfl) (by decide)⟩
instance tfl35x2 : TField Try.prog 35 2 2 3 := ⟨by kernel_rfl, kne (k := 1) (by kernel_rfl) (by decide)⟩
instance tfl35x3 : TField Try.prog 35 3 3 3 := ⟨by kernel_rfl, kne (k := 1) (by kernel_rfl) (by decide)⟩
instance tfl35x4 : TField Try.prog 35 4 4 3 := ⟨by kernel_rfl, kne (k := 1) (by kernel_rfl) (by decide)⟩
instance tfl35x5 : TField Try.prog 35 5 5 33 := ⟨by kernel_rfl, kne (k := 1) (by kernel_rfl) (by decide)⟩
instance tly35 : TLay Try.prog 35 [.int .i64 0, .int .i64 0, .int .i64 0, .int .i64 0, .int .i64 0, .nilsl] [(0, 1), (1, 1), (2, 1), (3, 1), (4, 1), (5, 1)] := ⟨by kernel_rfl⟩
instance tze35 : TZero Try.prog 35 (.agg [.int .i64 0, .int .i64 0, .int .i64 0, .int .i64 0, .int .i64 0, .nilsl]) := ⟨by kernel_rfl, rfl, by decide⟩
instance tsh36 : TSh Try.prog 36 .one := ⟨by kernel_rfl⟩
instance tcl36 : TCells Try.prog 36 1 := ⟨by kernel_rfl, by decide⟩
instance tze36 : TZero Try.prog 36 (.nilfunc) := ⟨by kernel_rfl, rfl, by decide⟩
instance tsh37 : TSh Try.prog 37 .one := ⟨by kernel_rfl⟩
instance tcl37 : TCells Try.prog 37 1 := ⟨by kernel_rfl, by decide⟩
instance tsh38 : TSh Try.prog 38 .one := ⟨by kernel_rfl⟩
instance tcl38 : TCells Try.prog 38 1 := ⟨by kernel_rfl, by decide⟩
instance tze38 : TZero Try.prog 38 (.nilfunc) := ⟨by kernel_rfl, rfl, by decide⟩
instance tsh39 : TSh Try.prog 39 .one := ⟨by kernel_rfl⟩
instance tcl39 : TCells Try.prog 39 1 := ⟨by kernel_rfl, by decide⟩
instance tze39 : TZero Try.prog 39 (.nilfunc) := ⟨by kernel_rfl, rfl, by decide⟩
instance tsh40 : TSh Try.prog 40 .one := ⟨by kernel_rfl⟩
instance tcl40 : TCells Try.prog 40 1 := ⟨by kernel_rfl, by decide⟩
instance tze40 : TZero Try.prog 40 (.nilfunc) := ⟨by kernel_rfl, rfl, by decide⟩
instance tsh41 : TSh Try.prog 41 .one := ⟨by kernel_rfl⟩
instance tcl41 : TCells Try.prog 41 1 := ⟨by kernel_rfl, by decide⟩
instance tze41 : TZero Try.prog 41 (.nilfunc) := ⟨by kernel_rfl, rfl, by decide⟩
instance tsh42 : TSh Try.prog 42 .one := ⟨by kernel_rfl⟩
instance tcl42 : TCells Try.prog 42 1 := ⟨by kernel_rfl, by decide⟩
instance tze42 : TZero Try.prog 42 (.nilfunc) := ⟨by kernel_rfl, rfl, by decide⟩
instance tsh43 : TSh Try.prog 43 .one := ⟨by kernel_rfl⟩
instance tcl43 : TCells Try.prog 43 1 := ⟨by kernel_rfl, by decide⟩
instance tze43 : TZero Try.prog 43 (.nilfunc) := ⟨by kernel_rfl, rfl, by decide⟩
instance tsh44 : TSh Try.prog 44 .one := ⟨by kernel_rfl⟩
instance tcl44 : TCells Try.prog 44 1 := ⟨by kernel_rfl, by decide⟩
instance tze44 : TZero Try.prog 44 (.nilfunc) := ⟨by kernel_rfl, rfl, by decide⟩
instance tsh45 : TSh Try.prog 45 .one := ⟨by kernel_rfl⟩
instance tcl45 : TCells Try.prog 45 1 := ⟨by kernel_rfl, by decide⟩
instance tze45 : TZero Try.prog 45 (.nilfunc) := ⟨by kernel_rfl, rfl, by decide⟩
instance tsh46 : TSh Try.prog 46 (.many 2) := ⟨by kernel_rfl⟩
instance tcl46 : TCells Try.prog 46 2 := ⟨by kernel_rfl, by decide⟩
instance tfl46x0 : TField Try.prog 46 0 0 3 := ⟨by kernel_rfl, kne (k := 1) (by kernel_rfl) (by decide)⟩
instance tfl46x1 : TField Try.prog 46 1 1 3 := ⟨by kernel_rfl, kne (k := 1) (by kernel_rfl) (by decide)⟩
instance tly46 : TLay Try.prog 46 [.int .i64 0, .int .i64 0] [(0, 1), (1, 1)] := ⟨by kernel_rfl⟩
instance tze46 : TZero Try.prog 46 (.agg [.int .i64 0, .int .i64 0]) := ⟨by kernel_rfl, rfl, by decide⟩
instance tsh47 : TSh Try.prog 47 (.many 2) := ⟨by kernel_rfl⟩
instance tcl47 : TCells Try.prog 47 2 := ⟨by kernel_rfl, by decide⟩
instance tfl47x0 : TField Try.prog 47 0 0 3 := ⟨by kernel_rfl, kne (k := 1) (by kernel_rfl) (by decide)⟩
instance tfl47x1 : TField Try.prog 47 1 1 3 := ⟨by kernel_rfl, kne (k := 1) (by kernel_rfl) (by decide)⟩
instance tly47 : TLay Try.prog 47 [.int .i64 0, .int .i64 0] [(0, 1), (1, 1)] := ⟨by kernel_rfl⟩
instance tze47 : TZero Try.prog 47 (.agg [.int .i64 0, .int .i64 0]) := ⟨by kernel_rfl, rfl, by decide⟩
instance tsh48 : TSh Try.prog 48 (.many 5) := ⟨by kernel_rfl⟩
instance tcl48 : TCells Try.prog 48 5 := ⟨by kernel_rfl, by decide⟩
instance tfl48x0 : TField Try.prog 48 0 0 9 := ⟨by kernel_rfl, kne (k := 1) (by kernel_rfl) (by decide)⟩
instance tfl48x1 : TField Try.prog 48 1 1 3 := ⟨by kernel_rfl, kne (k := 1) (by kernel_rfl) (by decide)⟩
instance tfl48x2 : TField Try.prog 48 2 2 3 := ⟨by kernel_rfl, kne (k := 1) (by kernel_rfl) (by decide)⟩
instance tfl48x3 : TField Try.prog 48 3 3 47 := ⟨by kernel_rfl, kne (k := 2) (by kernel_rfl) (by decide)⟩
instance tly48 : TLay Try.prog 48 [.str ByteArray.empty, .int .i64 0, .int .i64 0, .int .i64 0, .int .i64 0] [(0, 1), (1, 1), (2, 1), (3, 2)] := ⟨by kernel_rfl⟩
instance tze48 : TZero Try.prog 48 (.agg [.str ByteArray.empty, .int .i64 0, .int .i64 0, .int .i64 0, .int .i64 0]) := ⟨by kernel_rfl, rfl, by decide⟩
instance tsh49 : TSh Try.prog 49 (.many 5) := ⟨by kernel_rfl⟩
instance tcl49 : TCells Try.prog 49 5 := ⟨by kernel_rfl, by decide⟩
instance tfl49x0 : TField Try.prog 49 0 0 9 := ⟨by kernel_rfl, kne (k := 1) (by kernel_rfl) (by decide)⟩
instance tfl49x1 : TField Try.prog 49 1 1 3 := ⟨by kernel_rfl, kne (k := 1) (by kernel_rfl) (by decide)⟩
instance tfl49x2 : TField Try.prog 49 2 2 3 := ⟨by kernel_rfl, kne (k := 1) (by kernel_rfl) (by decide)⟩
instance tfl49x3 : TField Try.prog 49 3 3 47 := ⟨by kernel_rfl, kne (k := 2) (by kernel_rfl) (by decide)⟩
instance tly49 : TLay Try.prog 49 [.str ByteArray.empty, .int .i64 0, .int .i64 0, .int .i64 0, .int .i64 0] [(0, 1), (1, 1), (2, 1), (3, 2)] := ⟨by kernel_rfl⟩
instance tze49 : TZero Try.prog 49 (.agg [.str ByteArray.empty, .int .i64 0, .int .i64 0, .int .i64 0, .int .i64 0]) := ⟨by kernel_rfl, rfl, by decide⟩
instance tsh50 : TSh Try.prog 50 .one := ⟨by kernel_rfl⟩
instance tcl50 : TCells Try.prog 50 1 := ⟨by kernel_rfl, by decide⟩
instance tsh51 : TSh Try.prog 51 .one := ⟨by kernel_rfl⟩
instance tcl51 : TCells Try.prog 51 1 := ⟨by kernel_rfl, by decide⟩
instance tze51 : TZero Try.prog 51 (.nilfunc) := ⟨by kernel_rfl, rfl, by decide⟩
instance tsh52 : TSh Try.prog 52 .one := ⟨by kernel_rfl⟩
instance tcl52 : TCells Try.prog 52 1 := ⟨by kernel_rfl, by decide⟩
instance tsh53 : TSh Try.prog 53 .one := ⟨by kernel_rfl⟩
instance tcl53 : TCells Try.prog 53 1 := ⟨by kernel_rfl, by decide⟩
instance tze53 : TZero Try.prog 53 (.nilfunc) := ⟨by kernel_rfl, rfl, by decide⟩
instance tsh54 : TSh Try.prog 54 .one := ⟨by kernel_rfl⟩
instance tcl54 : TCells Try.prog 54 1 := ⟨by kernel_rfl, by decide⟩
instance tze54 : TZero Try.prog 54 (.nilfunc) := ⟨by kernel_rfl, rfl, by decide⟩
instance tsh55 : TSh Try.prog 55 .one := ⟨by kernel_rfl⟩
instance tcl55 : TCells Try.prog 55 1 := ⟨by kernel_rfl, by decide⟩
instance tze55 : TZero Try.prog 55 (.nilfunc) := ⟨by kernel_rfl, rfl, by decide⟩
instance tsh56 : TSh Try.prog 56 .one := ⟨by kernel_rfl⟩
instance tcl56 : TCells Try.prog 56 1 := ⟨by kernel_rfl, by decide⟩
instance tsl56 : TSlice Try.prog 56 92 3 := ⟨by kernel_rfl, by kernel_rfl, by decide⟩
instance tze56 : TZero Try.prog 56 (.nilsl) := ⟨by kernel_rfl, rfl, by decide⟩
instance tsh57 : TSh Try.prog 57 .one := ⟨by kernel_rfl⟩
instance tcl57 : TCells Try.prog 57 1 := ⟨by kernel_rfl, by decide⟩
instance tsh58 : TSh Try.prog 58 .one := ⟨by kernel_rfl⟩
instance tcl58 : TCells Try.prog 58 1 := ⟨by kernel_rfl, by decide⟩
instance tze58 : TZero Try.prog 58 (.nilfunc) := ⟨by kernel_rfl, rfl, by decide⟩
instance tsh59 : TSh Try.prog 59 .one := ⟨by kernel_rfl⟩
instance tcl59 : TCells Try.prog 59 1 := ⟨by kernel_rfl, by decide⟩
instance tze59 : TZero Try.prog 59 (.nilfunc) := ⟨by kernel_rfl, rfl, by decide⟩
instance tsh60 : TSh Try.prog 60 .one := ⟨by kernel_rfl⟩
instance tcl60 : TCells Try.prog 60 1 := ⟨by kernel_rfl, by decide⟩
instance tze60 : TZero Try.prog 60 (.nilfunc) := ⟨by kernel_rfl, rfl, by decide⟩
instance tsh61 : TSh Try.prog 61 (.many 2) := ⟨by kernel_rfl⟩
instance tcl61 : TCells Try.prog 61 2 := ⟨by kernel_rfl, by decide⟩
instance tfl61x0 : TField Try.prog 61 0 0 3 := ⟨by kernel_rfl, kne (k := 1) (by kernel_rfl) (by decide)⟩
instance tfl61x1 : TField Try.prog 61 1 1 3 := ⟨by kernel_rfl, kne (k := 1) (by kernel_rfl) (by decide)⟩
instance tly61 : TLay Try.prog 61 [.int .i64 0, .int .i64 0] [(0, 1), (1, 1)] := ⟨by kernel_rfl⟩
instance tze61 : TZero Try.prog 61 (.agg [.int .i64 0, .int .i64 0]) := ⟨by kernel_rfl, rfl, by decide⟩
instance tsh62 : TSh Try.prog 62 (.many 2) := ⟨by kernel_rfl⟩
instance tcl62 : TCells Try.prog 62 2 := ⟨by kernel_rfl, by decide⟩
instance tfl62x0 : TField Try.prog 62 0 0 3 := ⟨by kernel_rfl, kne (k := 1) (by kernel_rfl) (by decide)⟩
instance tfl62x1 : TField Try.prog 62 1 1 3 := ⟨by kernel_rfl, kne (k := 1) (by kernel_rfl) (by decide)⟩
instance tly62 : TLay Try.prog 62 [.int .i64 0, .int .i64 0] [(0, 1), (1, 1)] := ⟨by kernel_rfl⟩
instance tze62 : TZero Try.prog 62 (.agg [.int .i64 0, .int .i64 0]) := ⟨by kernel_rfl, rfl, by decide⟩
instance tsh63 : TSh Try.prog 63 (.many 3) := ⟨by kernel_rfl⟩
instance tcl63 : TCells Try.prog 63 3 := ⟨by kernel_rfl, by decide⟩
instance tze63 : TZero Try.prog 63 (.agg [.int .i64 0, .int .i64 0, .int .i64 0]) := ⟨by kernel_rfl, rfl, by decide⟩
instance tsh64 : TSh Try.prog 64 .one := ⟨by kernel_rfl⟩
instance tcl64 : TCells Try.prog 64 1 := ⟨by kernel_rfl, by decide⟩
instance tsl64 : TSlice Try.prog 64 68 3 := ⟨by kernel_rfl, by kernel_rfl, by decide⟩
instance tze64 : TZero Try.prog 64 (.nilsl) := ⟨by kernel_rfl, rfl, by decide⟩
instance tsh65 : TSh Try.prog 65 .one := ⟨by kernel_rfl⟩
instance tcl65 : TCells Try.prog 65 1 := ⟨by kernel_rfl, by decide⟩
instance tsh66 : TSh Try.prog 66 .one := ⟨by kernel_rfl⟩
instance tcl66 : TCells Try.prog 66 1 := ⟨by kernel_rfl, by decide⟩
instance tze66 : TZero Try.prog 66 (.nilfunc) := ⟨by kernel_rfl, rfl, by decide⟩
instance tsh67 : TSh Try.prog 67 (.many 3) := ⟨by kernel_rfl⟩
instance tcl67 : TCells Try.prog 67 3 := ⟨by kernel_rfl, by decide⟩
instance tfl67x0 : TField Try.prog 67 0 0 9 := ⟨by kernel_rfl, kne (k := 1) (by kernel_rfl) (by decide)⟩
instance tfl67x1 : TField Try.prog 67 1 1 3 := ⟨by kernel_rfl, kne (k := 1) (by kernel_rfl) (by decide)⟩
instance tfl67x2 : TField Try.prog 67 2 2 3 := ⟨by kernel_rfl, kne (k := 1) (by kernel_rfl) (by decide)⟩
instance tly67 : TLay Try.prog 67 [.str ByteArray.empty, .int .i64 0, .int .i64 0] [(0, 1), (1, 1), (2, 1)] := ⟨by kernel_rfl⟩
instance tze67 : TZero Try.prog 67 (.agg [.str ByteArray.empty, .int .i64 0, .int .i64 0]) := ⟨by kernel_rfl, rfl, by decide⟩
instance tsh68 : TSh Try.prog 68 (.many 3) := ⟨by kernel_rfl⟩
instance tcl68 : TCells Try.prog 68 3 := ⟨by kernel_rfl, by decide⟩
instance tfl68x0 : TField Try.prog 68 0 0 9 := ⟨by kernel_rfl, kne (k := 1) (by kernel_rfl) (by decide)⟩
instance tfl68x1 : TField Try.prog 68 1 1 3 := ⟨by kernel_rfl, kne (k := 1) (by kernel_rfl) (by decide)⟩
instance tfl68x2 : TField Try.prog 68 2 2 3 := ⟨by kernel_rfl, kne (k := 1) (by kernel_rfl) (by decide)⟩
instance tly68 : TLay Try.prog 68 [.str ByteArray.empty, .int .i64 0, .int .i64 0] [(0, 1), (1, 1), (2, 1)] := ⟨by kernel_rfl⟩
instance tze68 : TZero Try.prog 68 (.agg [.str ByteArray.empty, .int .i64 0, .int .i64 0]) := ⟨by kernel_rfl, rfl, by decide⟩
instance tsh69 : TSh Try.prog 69 .one := ⟨by kernel_rfl⟩
instance tcl69 : TCells Try.prog 69 1 := ⟨by kernel_rfl, by decide⟩
instance tsh70 : TSh Try.prog 70 .one := ⟨by kernel_rfl⟩
instance tcl70 : TCells Try.prog 70 1 := ⟨by kernel_rfl, by decide⟩
instance tze70 : TZero Try.prog 70 (.nilfunc) := ⟨by kernel_rfl, rfl, by decide⟩
instance tsh71 : TSh Try.prog 71 .one := ⟨by kernel_rfl⟩
instance tcl71 : TCells Try.prog 71 1 := ⟨by kernel_rfl, by decide⟩
instance tze71 : TZero Try.prog 71 (.nilfunc) := ⟨by kernel_rfl, rfl, by decide⟩
instance tsh72 : TSh Try.prog 72 .one := ⟨by kernel_rfl⟩
instance tcl72 : TCells Try.prog 72 1 := ⟨by kernel_rfl, by decide⟩
instance tze72 : TZero Try.prog 72 (.nilfunc) := ⟨by kernel_rfl, rfl, by decide⟩
instance tsh73 : TSh Try.prog 73 (.many 2) := ⟨by kernel_rfl⟩
instance tcl73 : TCells Try.prog 73 2 := ⟨by kernel_rfl, by decide⟩
instance tze73 : TZero Try.prog 73 (.agg [.int .i64 0, .int .i64 0]) := ⟨by kernel_rfl, rfl, by decide⟩
instance tsh74 : TSh Try.prog 74 .one := ⟨by kernel_rfl⟩
instance tcl74 : TCells Try.prog 74 1 := ⟨by kernel_rfl, by decide⟩
instance tsh75 : TSh Try.prog 75 .one := ⟨by kernel_rfl⟩
instance tcl75 : TCells Try.prog 75 1 := ⟨by kernel_rfl, by decide⟩
instance tze75 : TZero Try.prog 75 (.nilfunc) := ⟨by kernel_rfl, rfl, by decide⟩
instance tsh76 : TSh Try.prog 76 .one := ⟨by kernel_rfl⟩
instance tcl76 : TCells Try.prog 76 1 := ⟨by kernel_rfl, by decide⟩
instance tze76 : TZero Try.prog 76 (.nilfunc) := ⟨by kernel_rfl, rfl, by decide⟩
instance tsh77 : TSh Try.prog 77 .one := ⟨by kernel_rfl⟩
instance tcl77 : TCells Try.prog 77 1 := ⟨by kernel_rfl, by decide⟩
instance tze77 : TZero Try.prog 77 (.nilfunc) := ⟨by kernel_rfl, rfl, by decide⟩
instance tsh78 : TSh Try.prog 78 .one := ⟨by kernel_rfl⟩
instance tcl78 : TCells Try.prog 78 1 := ⟨by kernel_rfl, by decide⟩
instance tze78 : TZero Try.prog 78 (.nilfunc) := ⟨by kernel_rfl, rfl, by decide⟩
instance tsh79 : TSh Try.prog 79 .one := ⟨by kernel_rfl⟩
instance tcl79 : TCells Try.prog 79 1 := ⟨by kernel_rfl, by decide⟩
instance tze79 : TZero Try.prog 79 (.nilfunc) := ⟨by kernel_rfl, rfl, by decide⟩
instance tsh80 : TSh Try.prog 80 .one := ⟨by kernel_rfl⟩
instance tcl80 : TCells Try.prog 80 1 := ⟨by kernel_rfl, by decide⟩
instance tze80 : TZero Try.prog 80 (.nilfunc) := ⟨by kernel_rfl, rfl, by decide⟩
instance tsh81 : TSh Try.prog 81 .one := ⟨by kernel_rfl⟩
instance tcl81 : TCells Try.prog 81 1 := ⟨by kernel_rfl, by decide⟩
instance tze81 : TZero Try.prog 81 (.nilfunc) := ⟨by kernel_rfl, rfl, by decide⟩
instance tsh82 : TSh Try.prog 82 .one := ⟨by kernel_rfl⟩
instance tcl82 : TCells Try.prog 82 1 := ⟨by kernel_rfl, by decide⟩
instance tze82 : TZero Try.prog 82 (.nilfunc) := ⟨by kernel_rfl, rfl, by decide⟩
instance tsh83 : TSh Try.prog 83 .one := ⟨by kernel_rfl⟩
instance tcl83 : TCells Try.prog 83 1 := ⟨by kernel_rfl, by decide⟩
instance tsl83 : TSlice Try.prog 83 116 2 := ⟨by kernel_rfl, by kernel_rfl, by decide⟩
instance tze83 : TZero Try.prog 83 (.nilsl) := ⟨by kernel_rfl, rfl, by decide⟩
instance tsh84 : TSh Try.prog 84 .one := ⟨by kernel_rfl⟩
instance tcl84 : TCells Try.prog 84 1 := ⟨by kernel_rfl, by decide⟩
instance tsh85 : TSh Try.prog 85 .one := ⟨by kernel_rfl⟩
instance tcl85 : TCells Try.prog 85 1 := ⟨by kernel_rfl, by decide⟩
instance tze85 : TZero Try.prog 85 (.nilfunc) := ⟨by kernel_rfl, rfl, by decide⟩
instance tsh86 : TSh Try.prog 86 .one := ⟨by kernel_rfl⟩
instance tcl86 : TCells Try.prog 86 1 := ⟨by kernel_rfl, by decide⟩
instance tze86 : TZero Try.prog 86 (.nilfunc) := ⟨by kernel_rfl, rfl, by decide⟩
instance tsh87 : TSh Try.prog 87 .one := ⟨by kernel_rfl⟩
instance tcl87 : TCells Try.prog 87 1 := ⟨by kernel_rfl, by decide⟩
instance tze87 : TZero Try.prog 87 (.nilfunc) := ⟨by kernel_rfl, rfl, by decide⟩
instance tsh88 : TSh Try.prog 88 .one := ⟨by kernel_rfl⟩
instance tcl88 : TCells Try.prog 88 1 := ⟨by kernel_rfl, by decide⟩
instance tze88 : TZero Try.prog 88 (.nilfunc) := ⟨by kernel_rfl, rfl, by decide⟩
instance tsh89 : TSh Try.prog 89 .one := ⟨by kernel_rfl⟩
instance tcl89 : TCells Try.prog 89 1 := ⟨by kernel_rfl, by decide⟩
instance tze89 : TZero Try.prog 89 (.nilfunc) := ⟨by kernel_rfl, rfl, by decide⟩
instance tsh90 : TSh Try.prog 90 .one := ⟨by kernel_rfl⟩
instance tcl90 : TCells Try.prog 90 1 := ⟨by kernel_rfl, by decide⟩
instance tze90 : TZero Try.prog 90 (.nilfunc) := ⟨by kernel_rfl, rfl, by decide⟩
instance tsh91 : TSh Try.prog 91 (.many 3) := ⟨by kernel_rfl⟩
instance tcl91 : TCells Try.prog 91 3 := ⟨by kernel_rfl, by decide⟩
instance tfl91x0 : TField Try.prog 91 0 0 3 := ⟨by kernel_rfl, kne (k := 1) (by kernel_rfl) (by decide)⟩
instance tfl91x1 : TField Try.prog 91 1 1 3 := ⟨by kernel_rfl, kne (k := 1) (by kernel_rfl) (by decide)⟩
instance tfl91x2 : TField Try.prog 91 2 2 3 := ⟨by kernel_rfl, kne (k := 1) (by kernel_rfl) (by decide)⟩
instance tly91 : TLay Try.prog 91 [.int .i64 0, .int .i64 0, .int .i64 0] [(0, 1), (1, 1), (2, 1)] := ⟨by kernel_rfl⟩
instance tze91 : TZero Try.prog 91 (.agg [.int .i64 0, .int .i64 0, .int .i64 0]) := ⟨by kernel_rfl, rfl, by decide⟩
instance tsh92 : TSh Try.prog 92 (.many 3) := ⟨by kernel_rfl⟩
instance tcl92 : TCells Try.prog 92 3 := ⟨by kernel_rfl, by decide⟩
instance tfl92x0 : TField Try.prog 92 0 0 3 := ⟨by kernel_rfl, kne (k := 1) (by kernel_rfl) (by decide)⟩
instance tfl92x1 : TField Try.prog 92 1 1 3 := ⟨by kernel_rfl, kne (k := 1) (by kernel_rfl) (by decide)⟩
instance tfl92x2 : TField Try.prog 92 2 2 3 := ⟨by kernel_rfl, kne (k := 1) (by kernel_rfl) (by decide)⟩
instance tly92 : TLay Try.prog 92 [.int .i64 0, .int .i64 0, .int .i64 0] [(0, 1), (1, 1), (2, 1)] := ⟨by kernel_rfl⟩
instance tze92 : TZero Try.prog 92 (.agg [.int .i64 0, .int .i64 0, .int .i64 0]) := ⟨by kernel_rfl, rfl, by decide⟩
instance tsh93 : TSh Try.prog 93 .one := ⟨by kernel_rfl⟩
instance tcl93 : TCells Try.prog 93 1 := ⟨by kernel_rfl, by decide⟩
instance tze93 : TZero Try.prog 93 (.nilfunc) := ⟨by kernel_rfl, rfl, by decide⟩
instance tsh94 : TSh Try.prog 94 .one := ⟨by kernel_rfl⟩
instance tcl94 : TCells Try.prog 94 1 := ⟨by kernel_rfl, by decide⟩
instance tze94 : TZero Try.prog 94 (.nilfunc) := ⟨by kernel_rfl, rfl, by decide⟩
instance tsh95 : TSh Try.prog 95 .one := ⟨by kernel_rfl⟩
instance tcl95 : TCells Try.prog 95 1 := ⟨by kernel_rfl, by decide⟩
instance tze95 : TZero Try.prog 95 (.nilfunc) := ⟨by kernel_rfl, rfl, by decide⟩
instance tsh96 : TSh Try.prog 96 .one := ⟨by kernel_rfl⟩
instance tcl96 : TCells Try.prog 96 1 := ⟨by kernel_rfl, by decide⟩
instance tsl96 : TSlice Try.prog 96 106 7 := ⟨by kernel_rfl, by kernel_rfl, by decide⟩
instance tze96 : TZero Try.prog 96 (.nilsl) := ⟨by kernel_rfl, rfl, by decide⟩
instance tsh97 : TSh Try.prog 97 .one := ⟨by kernel_rfl⟩
instance tcl97 : TCells Try.prog 97 1 := ⟨by kernel_rfl, by decide⟩
instance tsl97 : TSlice Try.prog 97 62 2 := ⟨by kernel_rfl, by kernel_rfl, by decide⟩
instance tze97 : TZero Try.prog 97 (.nilsl) := ⟨by kernel_rfl, rfl, by decide⟩
instance tsh98 : TSh Try.prog 98 (.many 3) := ⟨by kernel_rfl⟩
instance tcl98 : TCells Try.prog 98 3 := ⟨by kernel_rfl, by decide⟩
instance tfl98x0 : TField Try.prog 98 0 0 97 := ⟨by kernel_rfl, kne (k := 1) (by kernel_rfl) (by decide)⟩
instance tfl98x1 : TField Try.prog 98 1 1 3 := ⟨by kernel_rfl, kne (k := 1) (by kernel_rfl) (by decide)⟩
instance tfl98x2 : TField Try.prog 98 2 2 3 := ⟨by kernel_rfl, kne (k := 1) (by kernel_rfl) (by decide)⟩
instance tly98 : TLay Try.prog 98 [.nilsl, .int .i64 0, .int .i64 0] [(0, 1), (1, 1), (2, 1)] := ⟨by kernel_rfl⟩
instance tze98 : TZero Try.prog 98 (.agg [.nilsl, .int .i64 0, .int .i64 0]) := ⟨by kernel_rfl, rfl, by decide⟩
instance tsh99 : TSh Try.prog 99 (.many 3) := ⟨by kernel_rfl⟩
instance tcl99 : TCells Try.prog 99 3 := ⟨by kernel_rfl, by decide⟩
instance tfl99x0 : TField Try.prog 99 0 0 97 := ⟨by kernel_rfl, kne (k := 1) (by kernel_rfl) (by decide)⟩
instance tfl99x1 : TField Try.prog 99 1 1 3 := ⟨by kernel_rfl, kne (k := 1) (by kernel_rfl) (by decide)⟩
instance tfl99x2 : TField Try.prog 99 2 2 3 := ⟨by kernel_rfl, kne (k := 1) (by kernel_rfl) (by decide)⟩
instance tly99 : TLay Try.prog 99 [.nilsl, .int .i64 0, .int .i64 0] [(0, 1), (1, 1), (2, 1)] := ⟨by kernel_rfl⟩
instance tze99 : TZero Try.prog 99 (.agg [.nilsl, .int .i64 0, .int .i64 0]) := ⟨by kernel_rfl, rfl, by decide⟩
instance tsh100 : TSh Try.prog 100 .one := ⟨by kernel_rfl⟩
instance tcl100 : TCells Try.prog 100 1 := ⟨by kernel_rfl, by decide⟩
instance tze100 : TZero Try.prog 100 (.nilfunc) := ⟨by kernel_rfl, rfl, by decide⟩
instance tsh101 : TSh Try.prog 101 .one := ⟨by kernel_rfl⟩
instance tcl101 : TCells Try.prog 101 1 := ⟨by kernel_rfl, by decide⟩
instance tsh102 : TSh Try.prog 102 .one := ⟨by kernel_rfl⟩
instance tcl102 : TCells Try.prog 102 1 := ⟨by kernel_rfl, by decide⟩
instance tze102 : TZero Try.prog 102 (.nilfunc) := ⟨by kernel_rfl, rfl, by decide⟩
instance tsh103 : TSh Try.prog 103 .one := ⟨by kernel_rfl⟩
instance tcl103 : TCells Try.prog 103 1 := ⟨by kernel_rfl, by decide⟩
instance tsh104 : TSh Try.prog 104 .one := ⟨by kernel_rfl⟩
instance tcl104 : TCells Try.prog 104 1 := ⟨by kernel_rfl, by decide⟩
instance tze104 : TZero Try.prog 104 (.nilfunc) := ⟨by kernel_rfl, rfl, by decide⟩
instance tsh105 : TSh Try.prog 105 (.many 7) := ⟨by kernel_rfl⟩
instance tcl105 : TCells Try.prog 105 7 := ⟨by kernel_rfl, by decide⟩
instance tfl105x0 : TField Try.prog 105 0 0 9 := ⟨by kernel_rfl, kne (k := 1) (by kernel_rfl) (by decide)⟩
instance tfl105x1 : TField Try.prog 105 1 1 9 := ⟨by kernel_rfl, kne (k := 1) (by kernel_rfl) (by decide)⟩
instance tfl105x2 : TField Try.prog 105 2 2 3 := ⟨by kernel_rfl, kne (k := 1) (by kernel_rfl) (by decide)⟩
instance tfl105x3 : TField Try.prog 105 3 3 3 := ⟨by kernel_rfl, kne (k := 1) (by kernel_rfl) (by decide)⟩
instance tfl105x4 : TField Try.prog 105 4 4 3 := ⟨by kernel_rfl, kne (k := 1) (by kernel_rfl) (by decide)⟩
instance tfl105x5 : TField Try.prog 105 5 5 3 := ⟨by kernel_rfl, kne (k := 1) (by kernel_rfl) (by decide)⟩
instance tfl105x6 : TField Try.prog 105 6 6 3 := ⟨by kernel_rfl, kne (k := 1) (by kernel_rfl) (by decide)⟩
instance tly105 : TLay Try.prog 105 [.str ByteArray.empty, .str ByteArray.empty, .int .i64 0, .int .i64 0, .int .i64 0, .int .i64 0, .int .i64 0] [(0, 1), (1, 1), (2, 1), (3, 1), (4, 1), (5, 1), (6, 1)] := ⟨by kernel_rfl⟩
instance tze105 : TZero Try.prog 105 (.agg [.str ByteArray.empty, .str ByteArray.empty, .int .i64 0, .int .i64 0, .int .i64 0, .int .i64 0, .int .i64 0]) := ⟨by kernel_rfl, rfl, by decide⟩
instance tsh106 : TSh Try.prog 106 (.many 7) := ⟨by kernel_rfl⟩
instance tcl106 : TCells Try.prog 106 7 := ⟨by kernel_rfl, by decide⟩
instance tfl106x0 : TField Try.prog 106 0 0 9 := ⟨by kernel_rfl, kne (k := 1) (by kernel_rfl) (by decide)⟩
instance tfl106x1 : TField Try.prog 106 1 1 9 := ⟨by kernel_rfl, kne (k := 1) (by kernel_rfl) (by decide)⟩
instance tfl106x2 : TField Try.prog 106 2 2 3 := ⟨by kernel_rfl, kne (k := 1) (by kernel_rfl) (by decide)⟩
instance tfl106x3 : TField Try.prog 106 3 3 3 := ⟨by kernel_rfl, kne (k := 1) (by kernel_rfl) (by decide)⟩
instance tfl106x4 : TField Try.prog 106 4 4 3 := ⟨by kernel_rfl, kne (k := 1) (by kernel_rfl) (by decide)⟩
instance tfl106x5 : TField Try.prog 106 5 5 3 := ⟨by kernel_rfl, kne (k := 1) (by kernel_rfl) (by decide)⟩
instance tfl106x6 : TField Try.prog 106 6 6 3 := ⟨by kernel_rfl, kne (k := 1) (by kernel_rfl) (by decide)⟩
instance tly106 : TLay Try.prog 106 [.str ByteArray.empty, .str ByteArray.empty, .int .i64 0, .int .i64 0, .int .i64 0, .int .i64 0, .int .i64 0] [(0, 1), (1, 1), (2, 1), (3, 1), (4, 1), (5, 1), (6, 1)] := ⟨by kernel_rfl⟩
instance tze106 : TZero Try.prog 106 (.agg [.str ByteArray.empty, .str ByteArray.empty, .int .i64 0, .int .i64 0, .int .i64 0, .int .i64 0, .int .i64 0]) := ⟨by kernel_rfl, rfl, by decide⟩
instance tsh107 : TSh Try.prog 107 .one := ⟨by kernel_rfl⟩
instance tcl107 : TCells Try.prog 107 1 := ⟨by kernel_rfl, by decide⟩
instance tze107 : TZero Try.prog 107 (.nilfunc) := ⟨by kernel_rfl, rfl, by decide⟩
instance tsh108 : TSh Try.prog 108 (.many 4) := ⟨by kernel_rfl⟩
instance tcl108 : TCells Try.prog 108 4 := ⟨by kernel_rfl, by decide⟩
instance tfl108x0 : TField Try.prog 108 0 0 3 := ⟨by kernel_rfl, kne (k := 1) (by kernel_rfl) (by decide)⟩
instance tfl108x1 : TField Try.prog 108 1 1 3 := ⟨by kernel_rfl, kne (k := 1) (by kernel_rfl) (by decide)⟩
instance tfl108x2 : TField Try.prog 108 2 2 3 := ⟨by kernel_rfl, kne (k := 1) (by kernel_rfl) (by decide)⟩
instance tfl108x3 : TField Try.prog 108 3 3 3 := ⟨by kernel_rfl, kne (k := 1) (by kernel_rfl) (by decide)⟩
instance tly108 : TLay Try.prog 108 [.int .i64 0, .int .i64 0, .int .i64 0, .int .i64 0] [(0, 1), (1, 1), (2, 1), (3, 1)] := ⟨by kernel_rfl⟩
instance tze108 : TZero Try.prog 108 (.agg [.int .i64 0, .int .i64 0, .int .i64 0, .int .i64 0]) := ⟨by kernel_rfl, rfl, by decide⟩
instance tsh109 : TSh Try.prog 109 (.many 4) := ⟨by kernel_rfl⟩
instance tcl109 : TCells Try.prog 109 4 := ⟨by kernel_rfl, by decide⟩
instance tfl109x0 : TField Try.prog 109 0 0 3 := ⟨by kernel_rfl, kne (k := 1) (by kernel_rfl) (by decide)⟩
instance tfl109x1 : TField Try.prog 109 1 1 3 := ⟨by kernel_rfl, kne (k := 1) (by kernel_rfl) (by decide)⟩
instance tfl109x2 : TField Try.prog 109 2 2 3 := ⟨by kernel_rfl, kne (k := 1) (by kernel_rfl) (by decide)⟩
instance tfl109x3 : TField Try.prog 109 3 3 3 := ⟨by kernel_rfl, kne (k := 1) (by kernel_rfl) (by decide)⟩
instance tly109 : TLay Try.prog 109 [.int .i64 0, .int .i64 0, .int .i64 0, .int .i64 0] [(0, 1), (1, 1), (2, 1), (3, 1)] := ⟨by kernel_rfl⟩
instance tze109 : TZero Try.prog 109 (.agg [.int .i64 0, .int .i64 0, .int .i64 0, .int .i64 0]) := ⟨by kernel_rfl, rfl, by decide⟩
instance tsh110 : TSh Try.prog 110 .one := ⟨by kernel_rfl⟩
instance tcl110 : TCells Try.prog 110 1 := ⟨by kernel_rfl, by decide⟩
instance tze110 : TZero Try.prog 110 (.nilfunc) := ⟨by kernel_rfl, rfl, by decide⟩
instance tsh111 : TSh Try.prog 111 (.many 3) := ⟨by kernel_rfl⟩
instance tcl111 : TCells Try.prog 111 3 := ⟨by kernel_rfl, by decide⟩
instance tfl111x0 : TField Try.prog 111 0 0 3 := ⟨by kernel_rfl, kne (k := 1) (by kernel_rfl) (by decide)⟩
instance tfl111x1 : TField Try.prog 111 1 1 3 := ⟨by kernel_rfl, kne (k := 1) (by kernel_rfl) (by decide)⟩
instance tfl111x2 : TField Try.prog 111 2 2 3 := ⟨by kernel_rfl, kne (k := 1) (by kernel_rfl) (by decide)⟩
instance tly111 : TLay Try.prog 111 [.int .i64 0, .int .i64 0, .int .i64 0] [(0, 1), (1, 1), (2, 1)] := ⟨by kernel_rfl⟩
instance tze111 : TZero Try.prog 111 (.agg [.int .i64 0, .int .i64 0, .int .i64 0]) := ⟨by kernel_rfl, rfl, by decide⟩
instance tsh112 : TSh Try.prog 112 (.many 3) := ⟨by kernel_rfl⟩
instance tcl112 : TCells Try.prog 112 3 := ⟨by kernel_rfl, by decide⟩
instance tfl112x0 : TField Try.prog 112 0 0 3 := ⟨by kernel_rfl, kne (k := 1) (by kernel_rfl) (by decide)⟩
instance tfl112x1 : TField Try.prog 112 1 1 3 := ⟨by kernel_rfl, kne (k := 1) (by kernel_rfl) (by decide)⟩
instance tfl112x2 : TField Try.prog 112 2 2 3 := ⟨by kernel_rfl, kne (k := 1) (by kernel_rfl) (by decide)⟩
instance tly112 : TLay Try.prog 112 [.int .i64 0, .int .i64 0, .int .i64 0] [(0, 1), (1, 1), (2, 1)] := ⟨by kernel_rfl⟩
instance tze112 : TZero Try.prog 112 (.agg [.int .i64 0, .int .i64 0, .int .i64 0]) := ⟨by kernel_rfl, rfl, by decide⟩
instance tsh113 : TSh Try.prog 113 .one := ⟨by kernel_rfl⟩
instance tcl113 : TCells Try.prog 113 1 := ⟨by kernel_rfl, by decide⟩
instance tsh114 : TSh Try.prog 114 .one := ⟨by kernel_rfl⟩
instance tcl114 : TCells Try.prog 114 1 := ⟨by kernel_rfl, by decide⟩
instance tze114 : TZero Try.prog 114 (.nilfunc) := ⟨by kernel_rfl, rfl, by decide⟩
instance tsh115 : TSh Try.prog 115 (.many 2) := ⟨by kernel_rfl⟩
instance tcl115 : TCells Try.prog 115 2 := ⟨by kernel_rfl, by decide⟩
instance tfl115x0 : TField Try.prog 115 0 0 9 := ⟨by kernel_rfl, kne (k := 1) (by kernel_rfl) (by decide)⟩
instance tfl115x1 : TField Try.prog 115 1 1 3 := ⟨by kernel_rfl, kne (k := 1) (by kernel_rfl) (by decide)⟩
instance tly115 : TLay Try.prog 115 [.str ByteArray.empty, .int .i64 0] [(0, 1), (1, 1)] := ⟨by kernel_rfl⟩
instance tze115 : TZero Try.prog 115 (.agg [.str ByteArray.empty, .int .i64 0]) := ⟨by kernel_rfl, rfl, by decide⟩
instance tsh116 : TSh Try.prog 116 (.many 2) := ⟨by kernel_rfl⟩
instance tcl116 : TCells Try.prog 116 2 := ⟨by kernel_rfl, by decide⟩
instance tfl116x0 : TField Try.prog 116 0 0 9 := ⟨by kernel_rfl, kne (k := 1) (by kernel_rfl) (by decide)⟩
instance tfl116x1 : TField Try.prog 116 1 1 3 := ⟨by kernel_rfl, kne (k := 1) (by kernel_rfl) (by decide)⟩
instance tly116 : TLay Try.prog 116 [.str ByteArray.empty, .int .i64 0] [(0, 1), (1, 1)] := ⟨by kernel_rfl⟩
instance tze116 : TZero Try.prog 116 (.agg [.str ByteArray.empty, .int .i64 0]) := ⟨by kernel_rfl, rfl, by decide⟩
instance tsh117 : TSh Try.prog 117 .one := ⟨by kernel_rfl⟩
instance tcl117 : TCells Try.prog 117 1 := ⟨by kernel_rfl, by decide⟩
instance tze117 : TZero Try.prog 117 (.nilfunc) := ⟨by kernel_rfl, rfl, by decide⟩
instance tsh118 : TSh Try.prog 118 (.many 3) := ⟨by kernel_rfl⟩
instance tcl118 : TCells Try.prog 118 3 := ⟨by kernel_rfl, by decide⟩
instance tfl118x0 : TField Try.prog 118 0 0 3 := ⟨by kernel_rfl, kne (k := 1) (by kernel_rfl) (by decide)⟩
instance tfl118x1 : TField Try.prog 118 1 1 3 := ⟨by kernel_rfl, kne (k := 1) (by kernel_rfl) (by decide)⟩
instance tfl118x2 : TField Try.prog 118 2 2 3 := ⟨by kernel_rfl, kne (k := 1) (by kernel_rfl) (by decide)⟩
instance tly118 : TLay Try.prog 118 [.int .i64 0, .int .i64 0, .int .i64 0] [(0, 1), (1, 1), (2, 1)] := ⟨by kernel_rfl⟩
instance tze118 : TZero Try.prog 118 (.agg [.int .i64 0, .int .i64 0, .int .i64 0]) := ⟨by kernel_rfl, rfl, by decide⟩
instance tsh119 : TSh Try.prog 119 (.many 3) := ⟨by kernel_rfl⟩
instance tcl119 : TCells Try.prog 119 3 := ⟨by kernel_rfl, by decide⟩
instance tfl119x0 : TField Try.prog 119 0 0 3 := ⟨by kernel_rfl, kne (k := 1) (by kernel_rfl) (by decide)⟩
instance tfl119x1 : TField Try.prog 119 1 1 3 := ⟨by kernel_rfl, kne (k := 1) (by kernel_rfl) (by decide)⟩
instance tfl119x2 : TField Try.prog 119 2 2 3 := ⟨by kernel_rfl, kne (k := 1) (by kernel_rfl) (by decide)⟩
instance tly119 : TLay Try.prog 119 [.int .i64 0, .int .i64 0, .int .i64 0] [(0, 1), (1, 1), (2, 1)] := ⟨by kernel_rfl⟩
instance tze119 : TZero Try.prog 119 (.agg [.int .i64 0, .int .i64 0, .int .i64 0]) := ⟨by kernel_rfl, rfl, by decide⟩
instance tsh120 : TSh Try.prog 120 .one := ⟨by kernel_rfl⟩
instance tcl120 : TCells Try.prog 120 1 := ⟨by kernel_rfl, by decide⟩
instance tze120 : TZero Try.prog 120 (.int .u16 0) := ⟨by kernel_rfl, rfl, by decide⟩
instance tsh121 : TSh Try.prog 121 (.many 2) := ⟨by kernel_rfl⟩
instance tcl121 : TCells Try.prog 121 2 := ⟨by kernel_rfl, by decide⟩
instance tze121 : TZero Try.prog 121 (.agg [.int .u16 0, .int .u16 0]) := ⟨by kernel_rfl, rfl, by decide⟩
instance tsh122 : TSh Try.prog 122 .one := ⟨by kernel_rfl⟩
instance tcl122 : TCells Try.prog 122 1 := ⟨by kernel_rfl, by decide⟩
instance tze122 : TZero Try.prog 122 (.nilfunc) := ⟨by kernel_rfl, rfl, by decide⟩
instance tsh123 : TSh Try.prog 123 .one := ⟨by kernel_rfl⟩
instance tcl123 : TCells Try.prog 123 1 := ⟨by kernel_rfl, by decide⟩
instance tze123 : TZero Try.prog 123 (.nilfunc) := ⟨by kernel_rfl, rfl, by decide⟩
instance tsh124 : TSh Try.prog 124 .one := ⟨by kernel_rfl⟩
instance tcl124 : TCells Try.prog 124 1 := ⟨by kernel_rfl, by decide⟩
instance tze124 : TZero Try.prog 124 (.nilfunc) := ⟨by kernel_rfl, rfl, by decide⟩
instance tsh125 : TSh Try.prog 125 (.many 7) := ⟨by kernel_rfl⟩
instance tcl125 : TCells Try.prog 125 7 := ⟨by kernel_rfl, by decide⟩
instance tfl125x0 : TField Try.prog 125 0 0 9 := ⟨by kernel_rfl, kne (k := 1) (by kernel_rfl) (by decide)⟩
instance tfl125x1 : TField Try.prog 125 1 1 62 := ⟨by kernel_rfl, kne (k := 2) (by kernel_rfl) (by decide)⟩
instance tfl125x2 : TField Try.prog 125 2 3 62 := ⟨by kernel_rfl, kne (k := 2) (by kernel_rfl) (by decide)⟩
instance tfl125x3 : TField Try.prog 125 3 5 3 := ⟨by kernel_rfl, kne (k := 1) (by kernel_rfl) (by decide)⟩
instance tfl125x4 : TField Try.prog 125 4 6 3 := ⟨by kernel_rfl, kne (k := 1) (by kernel_rfl) (by decide)⟩
instance tly125 : TLay Try.prog 125 [.str ByteArray.empty, .int .i64 0, .int .i64 0, .int .i64 0, .int .i64 0, .int .i64 0, .int .i64 0] [(0, 1), (1, 2), (3, 2), (5, 1), (6, 1)] := ⟨by kernel_rfl⟩
instance tze125 : TZero Try.prog 125 (.agg [.str ByteArray.empty, .int .i64 0, .int .i64 0, .int .i64 0, .int .i64 0, .int .i64 0, .int .i64 0]) := ⟨by kernel_rfl, rfl, by decide⟩
instance tsh126 : TSh Try.prog 126 (.many 7) := ⟨by kernel_rfl⟩
instance tcl126 : TCells Try.prog 126 7 := ⟨by kernel_rfl, by decide⟩
instance tfl126x0 : TField Try.prog 126 0 0 9 := ⟨by kernel_rfl, kne (k := 1) (by kernel_rfl) (by decide)⟩
instance tfl126x1 : TField Try.prog 126 1 1 62 := ⟨by kernel_rfl, kne (k := 2) (by kernel_rfl) (by decide)⟩
instance tfl126x2 : TField Try.prog 126 2 3 62 := ⟨by kernel_rfl, kne (k := 2) (by kernel_rfl) (by decide)⟩
instance tfl126x3 : TField Try.prog 126 3 5 3 := ⟨by kernel_rfl, kne (k := 1) (by kernel_rfl) (by decide)⟩
instance tfl126x4 : TField Try.prog 126 4 6 3 := ⟨by kernel_rfl, kne (k := 1) (by kernel_rfl) (by decide)⟩
instance tly126 : TLay Try.prog 126 [.str ByteArray.empty, .int .i64 0, .int .i64 0, .int .i64 0, .int .i64 0, .int .i64 0, .int .i64 0] [(0, 1), (1, 2), (3, 2), (5, 1), (6, 1)] := ⟨by kernel_rfl⟩
instance tze126 : TZero Try.prog 126 (.agg [.str ByteArray.empty, .int .i64 0, .int .i64 0, .int .i64 0, .int .i64 0, .int .i64 0, .int .i64 0]) := ⟨by kernel_rfl, rfl, by decide⟩
instance tsh127 : TSh Try.prog 127 .one := ⟨by kernel_rfl⟩
instance tcl127 : TCells Try.prog 127 1 := ⟨by kernel_rfl, by decide⟩
instance tze127 : TZero Try.prog 127 (.nilfunc) := ⟨by kernel_rfl, rfl, by decide⟩
instance tsh128 : TSh Try.prog 128 .one := ⟨by kernel_rfl⟩
instance tcl128 : TCells Try.prog 128 1 := ⟨by kernel_rfl, by decide⟩
instance tsh129 : TSh Try.prog 129 .one := ⟨by kernel_rfl⟩
instance tcl129 : TCells Try.prog 129 1 := ⟨by kernel_rfl, by decide⟩
instance tze129 : TZero Try.prog 129 (.nilfunc) := ⟨by kernel_rfl, rfl, by decide⟩
instance tsh130 : TSh Try.prog 130 .one := ⟨by kernel_rfl⟩
instance tcl130 : TCells Try.prog 130 1 := ⟨by kernel_rfl, by decide⟩
instance tze130 : TZero Try.prog 130 (.nilfunc) := ⟨by kernel_rfl, rfl, by decide⟩
instance tsh131 : TSh Try.prog 131 .one := ⟨by kernel_rfl⟩
instance tcl131 : TCells Try.prog 131 1 := ⟨by kernel_rfl, by decide⟩
instance tsh132 : TSh Try.prog 132 .one := ⟨by kernel_rfl⟩
instance tcl132 : TCells Try.prog 132 1 := ⟨by kernel_rfl, by decide⟩
instance tze132 : TZero Try.prog 132 (.nilfunc) := ⟨by kernel_rfl, rfl, by decide⟩
instance tsh133 : TSh Try.prog 133 .one := ⟨by kernel_rfl⟩
instance tcl133 : TCells Try.prog 133 1 := ⟨by kernel_rfl, by decide⟩
instance tze133 : TZero Try.prog 133 (.nilfunc) := ⟨by kernel_rfl, rfl, by decide⟩
instance tsh134 : TSh Try.prog 134 .one := ⟨by kernel_rfl⟩
instance tcl134 : TCells Try.prog 134 1 := ⟨by kernel_rfl, by decide⟩
instance tze134 : TZero Try.prog 134 (.nilfunc) := ⟨by kernel_rfl, rfl, by decide⟩
instance tsh135 : TSh Try.prog 135 .one := ⟨by kernel_rfl⟩
instance tcl135 : TCells Try.prog 135 1 := ⟨by kernel_rfl, by decide⟩
instance tze135 : TZero Try.prog 135 (.nilfunc) := ⟨by kernel_rfl, rfl, by decide⟩
instance tsh136 : TSh Try.prog 136 .one := ⟨by kernel_rfl⟩
instance tcl136 : TCells Try.prog 136 1 := ⟨by kernel_rfl, by decide⟩
instance tze136 : TZero Try.prog 136 (.nilfunc) := ⟨by kernel_rfl, rfl, by decide⟩
instance tsh137 : TSh Try.prog 137 .one := ⟨by kernel_rfl⟩
instance tcl137 : TCells Try.prog 137 1 := ⟨by kernel_rfl, by decide⟩
instance tze137 : TZero Try.prog 137 (.nilfunc) := ⟨by kernel_rfl, rfl, by decide⟩
instance tsh138 : TSh Try.prog 138 .one := ⟨by kernel_rfl⟩
instance tcl138 : TCells Try.prog 138 1 := ⟨by kernel_rfl, by decide⟩
instance tsl138 : TSlice Try.prog 138 142 2 := ⟨by kernel_rfl, by kernel_rfl, by decide⟩
instance tze138 : TZero Try.prog 138 (.nilsl) := ⟨by kernel_rfl, rfl, by decide⟩
instance tsh139 : TSh Try.prog 139 (.many 4) := ⟨by kernel_rfl⟩
instance tcl139 : TCells Try.prog 139 4 := ⟨by kernel_rfl, by decide⟩
instance tfl139x0 : TField Try.prog 139 0 0 9 := ⟨by kernel_rfl, kne (k := 1) (by kernel_rfl) (by decide)⟩
instance tfl139x1 : TField Try.prog 139 1 1 3 := ⟨by kernel_rfl, kne (k := 1) (by kernel_rfl) (by decide)⟩
instance tfl139x2 : TField Try.prog 139 2 2 3 := ⟨by kernel_rfl, kne (k := 1) (by kernel_rfl) (by decide)⟩
instance tfl139x3 : TField Try.prog 139 3 3 138 := ⟨by kernel_rfl, kne (k := 1) (by kernel_rfl) (by decide)⟩
instance tly139 : TLay Try.prog 139 [.str ByteArray.empty, .int .i64 0, .int .i64 0, .nilsl] [(0, 1), (1, 1), (2, 1), (3, 1)] := ⟨by kernel_rfl⟩
instance tze139 : TZero Try.prog 139 (.agg [.str ByteArray.empty, .int .i64 0, .int .i64 0, .nilsl]) := ⟨by kernel_rfl, rfl, by decide⟩
instance tsh140 : TSh Try.prog 140 (.many 4) := ⟨by kernel_rfl⟩
instance tcl140 : TCells Try.prog 140 4 := ⟨by kernel_rfl, by decide⟩
instance tfl140x0 : TField Try.prog 140 0 0 9 := ⟨by kernel_rfl, kne (k := 1) (by kernel_rfl) (by decide)⟩
instance tfl140x1 : TField Try.prog 140 1 1 3 := ⟨by kernel_rfl, kne (k := 1) (by kernel_rfl) (by decide)⟩
instance tfl140x2 : TField Try.prog 140 2 2 3 := ⟨by kernel_rfl, kne (k := 1) (by kernel_rfl) (by decide)⟩
instance tfl140x3 : TField Try.prog 140 3 3 138 := ⟨by kernel_rfl, kne (k := 1) (by kernel_rfl) (by decide)⟩
instance tly140 : TLay Try.prog 140 [.str ByteArray.empty, .int .i64 0, .int .i64 0, .nilsl] [(0, 1), (1, 1), (2, 1), (3, 1)] := ⟨by kernel_rfl⟩
instance tze140 : TZero Try.prog 140 (.agg [.str ByteArray.empty, .int .i64 0, .int .i64 0, .nilsl]) := ⟨by kernel_rfl, rfl, by decide⟩
instance tsh141 : TSh Try.prog 141 (.many 2) := ⟨by kernel_rfl⟩
instance tcl141 : TCells Try.prog 141 2 := ⟨by kernel_rfl, by decide⟩
instance tfl141x0 : TField Try.prog 141 0 0 3 := ⟨by kernel_rfl, kne (k := 1) (by kernel_rfl) (by decide)⟩
instance tfl141x1 : TField Try.prog 141 1 1 9 := ⟨by kernel_rfl, kne (k := 1) (by kernel_rfl) (by decide)⟩
instance tly141 : TLay Try.prog 141 [.int .i64 0, .str ByteArray.empty] [(0, 1), (1, 1)] := ⟨by kernel_rfl⟩
instance tze141 : TZero Try.prog 141 (.agg [.int .i64 0, .str ByteArray.empty]) := ⟨by kernel_rfl, rfl, by decide⟩
instance tsh142 : TSh Try.prog 142 (.many 2) := ⟨by kernel_rfl⟩
instance tcl142 : TCells Try.prog 142 2 := ⟨by kernel_rfl, by decide⟩
instance tfl142x0 : TField Try.prog 142 0 0 3 := ⟨by kernel_rfl, kne (k := 1) (by kernel_rfl) (by decide)⟩
instance tfl142x1 : TField Try.prog 142 1 1 9 := ⟨by kernel_rfl, kne (k := 1) (by kernel_rfl) (by decide)⟩
instance tly142 : TLay Try.prog 142 [.int .i64 0, .str ByteArray.empty] [(0, 1), (1, 1)] := ⟨by kernel_rfl⟩
instance tze142 : TZero Try.prog 142 (.agg [.int .i64 0, .str ByteArray.empty]) := ⟨by kernel_rfl, rfl, by decide⟩
instance tsh143 : TSh Try.prog 143 .one := ⟨by kernel_rfl⟩
instance tcl143 : TCells Try.prog 143 1 := ⟨by kernel_rfl, by decide⟩
instance tze143 : TZero Try.prog 143 (.nilfunc) := ⟨by kernel_rfl, rfl, by decide⟩
instance tsh144 : TSh Try.prog 144 .one := ⟨by kernel_rfl⟩
instance tcl144 : TCells Try.prog 144 1 := ⟨by kernel_rfl, by decide⟩
instance tze144 : TZero Try.prog 144 (.nilfunc) := ⟨by kernel_rfl, rfl, by decide⟩
instance tsh145 : TSh Try.prog 145 .one := ⟨by kernel_rfl⟩
instance tcl145 : TCells Try.prog 145 1 := ⟨by kernel_rfl, by decide⟩
instance tze145 : TZero Try.prog 145 (.nilfunc) := ⟨by kernel_rfl, rfl, by decide⟩
instance tsh146 : TSh Try.prog 146 .one := ⟨by kernel_rfl⟩
instance tcl146 : TCells Try.prog 146 1 := ⟨by kernel_rfl, by decide⟩
instance tze146 : TZero Try.prog 146 (.nilfunc) := ⟨by kernel_rfl, rfl, by decide⟩
instance tsh147 : TSh Try.prog 147 .one := ⟨by kernel_rfl⟩
instance tcl147 : TCells Try.prog 147 1 := ⟨by kernel_rfl, by decide⟩
instance tze147 : TZero Try.prog 147 (.nilfunc) := ⟨by kernel_rfl, rfl, by decide⟩
instance tsh148 : TSh Try.prog 148 .one := ⟨by kernel_rfl⟩
instance tcl148 : TCells Try.prog 148 1 := ⟨by kernel_rfl, by decide⟩
instance tze148 : TZero Try.prog 148 (.nilfunc) := ⟨by kernel_rfl, rfl, by decide⟩
instance tsh149 : TSh Try.prog 149 .one := ⟨by kernel_rfl⟩
instance tcl149 : TCells Try.prog 149 1 := ⟨by kernel_rfl, by decide⟩
instance tze149 : TZero Try.prog 149 (.nilfunc) := ⟨by kernel_rfl, rfl, by decide⟩
instance tsh150 : TSh Try.prog 150 .one := ⟨by kernel_rfl⟩
instance tcl150 : TCells Try.prog 150 1 := ⟨by kernel_rfl, by decide⟩
instance tze150 : TZero Try.prog 150 (.nilfunc) := ⟨by kernel_rfl, rfl, by decide⟩
instance tsh151 : TSh Try.prog 151 .one := ⟨by kernel_rfl⟩
instance tcl151 : TCells Try.prog 151 1 := ⟨by kernel_rfl, by decide⟩
instance tze151 : TZero Try.prog 151 (.nilfunc) := ⟨by kernel_rfl, rfl, by decide⟩
instance tsh152 : TSh Try.prog 152 (.many 2) := ⟨by kernel_rfl⟩
instance tcl152 : TCells Try.prog 152 2 := ⟨by kernel_rfl, by decide⟩
instance tfl152x0 : TField Try.prog 152 0 0 25 := ⟨by kernel_rfl, kne (k := 2) (by kernel_rfl) (by decide)⟩
instance tly152 : TLay Try.prog 152 [.nilsl, .nilsl] [(0, 2)] := ⟨by kernel_rfl⟩
instance tze152 : TZero Try.prog 152 (.agg [.nilsl, .nilsl]) := ⟨by kernel_rfl, rfl, by decide⟩
instance tsh153 : TSh Try.prog 153 (.many 2) := ⟨by kernel_rfl⟩
instance tcl153 : TCells Try.prog 153 2 := ⟨by kernel_rfl, by decide⟩
instance tfl153x0 : TField Try.prog 153 0 0 25 := ⟨by kernel_rfl, kne (k := 2) (by kernel_rfl) (by decide)⟩
instance tly153 : TLay Try.prog 153 [.nilsl, .nilsl] [(0, 2)] := ⟨by kernel_rfl⟩
instance tze153 : TZero Try.prog 153 (.agg [.nilsl, .nilsl]) := ⟨by kernel_rfl, rfl, by decide⟩
instance tsh154 : TSh Try.prog 154 .one := ⟨by kernel_rfl⟩
instance tcl154 : TCells Try.prog 154 1 := ⟨by kernel_rfl, by decide⟩
instance tze154 : TZero Try.prog 154 (.nilfunc) := ⟨by kernel_rfl, rfl, by decide⟩
instance tsh155 : TSh Try.prog 155 .one := ⟨by kernel_rfl⟩
instance tcl155 : TCells Try.prog 155 1 := ⟨by kernel_rfl, by decide⟩
instance tze155 : TZero Try.prog 155 (.nilfunc) := ⟨by kernel_rfl, rfl, by decide⟩
instance tsh156 : TSh Try.prog 156 .one := ⟨by kernel_rfl⟩
instance tcl156 : TCells Try.prog 156 1 := ⟨by kernel_rfl, by decide⟩
instance tze156 : TZero Try.prog 156 (.nilfunc) := ⟨by kernel_rfl, rfl, by decide⟩
instance tsh157 : TSh Try.prog 157 .one := ⟨by kernel_rfl⟩
instance tcl157 : TCells Try.prog 157 1 := ⟨by kernel_rfl, by decide⟩
instance tze157 : TZero Try.prog 157 (.nilfunc) := ⟨by kernel_rfl, rfl, by decide⟩
instance tsh158 : TSh Try.prog 158 (.many 7) := ⟨by kernel_rfl⟩
instance tcl158 : TCells Try.prog 158 7 := ⟨by kernel_rfl, by decide⟩
instance tfl158x0 : TField Try.prog 158 0 0 35 := ⟨by kernel_rfl, kne (k := 6) (by kernel_rfl) (by decide)⟩
instance tfl158x1 : TField Try.prog 158 1 6 33 := ⟨by kernel_rfl, kne (k := 1) (by kernel_rfl) (by decide)⟩
instance tly158 : TLay Try.prog 158 [.int .i64 0, .int .i64 0, .int .i64 0, .int .i64 0, .int .i64 0, .nilsl, .nilsl] [(0, 6), (6, 1)] := ⟨by kernel_rfl⟩
instance tze158 : TZero Try.prog 158 (.agg [.int .i64 0, .int .i64 0, .int .i64 0, .int .i64 0, .int .i64 0, .nilsl, .nilsl]) := ⟨by kernel_rfl, rfl, by decide⟩
instance tsh159 : TSh Try.prog 159 (.many 7) := ⟨by kernel_rfl⟩
instance tcl159 : TCells Try.prog 159 7 := ⟨by kernel_rfl, by decide⟩
instance tfl159x0 : TField Try.prog 159 0 0 35 := ⟨by kernel_rfl, kne (k := 6) (by kernel_rfl) (by decide)⟩
instance tfl159x1 : TField Try.prog 159 1 6 33 := ⟨by kernel_rfl, kne (k := 1) (by kernel_rfl) (by decide)⟩
instance tly159 : TLay Try.prog 159 [.int .i64 0, .int .i64 0, .int .i64 0, .int .i64 0, .int .i64 0, .nilsl, .nilsl] [(0, 6), (6, 1)] := ⟨by kernel_rfl⟩
instance tze159 : TZero Try.prog 159 (.agg [.int .i64 0, .int .i64 0, .int .i64 0, .int .i64 0, .int .i64 0, .nilsl, .nilsl]) := ⟨by kernel_rfl, rfl, by decide⟩
instance tsh160 : TSh Try.prog 160 .one := ⟨by kernel_rfl⟩
instance tcl160 : TCells Try.prog 160 1 := ⟨by kernel_rfl, by decide⟩
instance tze160 : TZero Try.prog 160 (.nilfunc) := ⟨by kernel_rfl, rfl, by decide⟩
instance tsh161 : TSh Try.prog 161 .one := ⟨by kernel_rfl⟩
instance tcl161 : TCells Try.prog 161 1 := ⟨by kernel_rfl, by decide⟩
instance tze161 : TZero Try.prog 161 (.nilfunc) := ⟨by kernel_rfl, rfl, by decide⟩
instance tsh162 : TSh Try.prog 162 .one := ⟨by kernel_rfl⟩
instance tcl162 : TCells Try.prog 162 1 := ⟨by kernel_rfl, by decide⟩
instance tze162 : TZero Try.prog 162 (.nilfunc) := ⟨by kernel_rfl, rfl, by decide⟩
instance tsh163 : TSh Try.prog 163 .one := ⟨by kernel_rfl⟩
instance tcl163 : TCells Try.prog 163 1 := ⟨by kernel_rfl, by decide⟩
instance tze163 : TZero Try.prog 163 (.nilfunc) := ⟨by kernel_rfl, rfl, by decide⟩
instance tsh164 : TSh Try.prog 164 .one := ⟨by kernel_rfl⟩
instance tcl164 : TCells Try.prog 164 1 := ⟨by kernel_rfl, by decide⟩
instance tze164 : TZero Try.prog 164 (.nilfunc) := ⟨by kernel_rfl, rfl, by decide⟩
instance tsh165 : TSh Try.prog 165 .one := ⟨by kernel_rfl⟩
instance tcl165 : TCells Try.prog 165 1 := ⟨by kernel_rfl, by decide⟩
instance tze165 : TZero Try.prog 165 (.nilfunc) := ⟨by kernel_rfl, rfl, by decide⟩
instance tsh166 : TSh Try.prog 166 .one := ⟨by kernel_rfl⟩
instance tcl166 : TCells Try.prog 166 1 := ⟨by kernel_rfl, by decide⟩
instance tze166 : TZero Try.prog 166 (.nilfunc) := ⟨by kernel_rfl, rfl, by decide⟩
instance tsh167 : TSh Try.prog 167 .one := ⟨by kernel_rfl⟩
instance tcl167 : TCells Try.prog 167 1 := ⟨by kernel_rfl, by decide⟩
instance tze167 : TZero Try.prog 167 (.nilfunc) := ⟨by kernel_rfl, rfl, by decide⟩
instance tsh168 : TSh Try.prog 168 .one := ⟨by kernel_rfl⟩
instance tcl168 : TCells Try.prog 168 1 := ⟨by kernel_rfl, by decide⟩
instance tze168 : TZero Try.prog 168 (.nilfunc) := ⟨by kernel_rfl, rfl, by decide⟩
instance tsh169 : TSh Try.prog 169 .one := ⟨by kernel_rfl⟩
instance tcl169 : TCells Try.prog 169 1 := ⟨by kernel_rfl, by decide⟩
instance tze169 : TZero Try.prog 169 (.nilfunc) := ⟨by kernel_rfl, rfl, by decide⟩
instance tsh170 : TSh Try.prog 170 .one := ⟨by kernel_rfl⟩
instance tcl170 : TCells Try.prog 170 1 := ⟨by kernel_rfl, by decide⟩
instance tze170 : TZero Try.prog 170 (.nilfunc) := ⟨by kernel_rfl, rfl, by decide⟩
instance tsh171 : TSh Try.prog 171 .one := ⟨by kernel_rfl⟩
instance tcl171 : TCells Try.prog 171 1 := ⟨by kernel_rfl, by decide⟩
instance tsl171 : TSlice Try.prog 171 173 2 := ⟨by kernel_rfl, by kernel_rfl, by decide⟩
instance tze171 : TZero Try.prog 171 (.nilsl) := ⟨by kernel_rfl, rfl, by decide⟩
instance tsh172 : TSh Try.prog 172 (.many 2) := ⟨by kernel_rfl⟩
instance tcl172 : TCells Try.prog 172 2 := ⟨by kernel_rfl, by decide⟩
instance tfl172x0 : TField Try.prog 172 0 0 9 := ⟨by kernel_rfl, kne (k := 1) (by kernel_rfl) (by decide)⟩
instance tfl172x1 : TField Try.prog 172 1 1 33 := ⟨by kernel_rfl, kne (k := 1) (by kernel_rfl) (by decide)⟩
instance tly172 : TLay Try.prog 172 [.str ByteArray.empty, .nilsl] [(0, 1), (1, 1)] := ⟨by kernel_rfl⟩
instance tze172 : TZero Try.prog 172 (.agg [.str ByteArray.empty, .nilsl]) := ⟨by kernel_rfl, rfl, by decide⟩
instance tsh173 : TSh Try.prog 173 (.many 2) := ⟨by kernel_rfl⟩
instance tcl173 : TCells Try.prog 173 2 := ⟨by kernel_rfl, by decide⟩
instance tfl173x0 : TField Try.prog 173 0 0 9 := ⟨by kernel_rfl, kne (k := 1) (by kernel_rfl) (by decide)⟩
instance tfl173x1 : TField Try.prog 173 1 1 33 := ⟨by kernel_rfl, kne (k := 1) (by kernel_rfl) (by decide)⟩
instance tly173 : TLay Try.prog 173 [.str ByteArray.empty, .nilsl] [(0, 1), (1, 1)] := ⟨by kernel_rfl⟩
instance tze173 : TZero Try.prog 173 (.agg [.str ByteArray.empty, .nilsl]) := ⟨by kernel_rfl, rfl, by decide⟩
instance tsh174 : TSh Try.prog 174 .one := ⟨by kernel_rfl⟩
instance tcl174 : TCells Try.prog 174 1 := ⟨by kernel_rfl, by decide⟩
instance tze174 : TZero Try.prog 174 (.nilfunc) := ⟨by kernel_rfl, rfl, by decide⟩
instance tsh175 : TSh Try.prog 175 .one := ⟨by kernel_rfl⟩
instance tcl175 : TCells Try.prog 175 1 := ⟨by kernel_rfl, by decide⟩
instance tze175 : TZero Try.prog 175 (.nilfunc) := ⟨by kernel_rfl, rfl, by decide⟩
instance tsh176 : TSh Try.prog 176 .one := ⟨by kernel_rfl⟩
instance tcl176 : TCells Try.prog 176 1 := ⟨by kernel_rfl, by decide⟩
instance tze176 : TZero Try.prog 176 (.nilfunc) := ⟨by kernel_rfl, rfl, by decide⟩
instance tsh177 : TSh Try.prog 177 .one := ⟨by kernel_rfl⟩
instance tcl177 : TCells Try.prog 177 1 := ⟨by kernel_rfl, by decide⟩
instance tze177 : TZero Try.prog 177 (.nilfunc) := ⟨by kernel_rfl, rfl, by decide⟩
instance tsh178 : TSh Try.prog 178 .one := ⟨by kernel_rfl⟩
instance tcl178 : TCells Try.prog 178 1 := ⟨by kernel_rfl, by decide⟩
instance tze178 : TZero Try.prog 178 (.nilfunc) := ⟨by kernel_rfl, rfl, by decide⟩
instance tsh179 : TSh Try.prog 179 .one := ⟨by kernel_rfl⟩
instance tcl179 : TCells Try.prog 179 1 := ⟨by kernel_rfl, by decide⟩
instance tze179 : TZero Try.prog 179 (.nilfunc) := ⟨by kernel_rfl, rfl, by decide⟩
instance tsh180 : TSh Try.prog 180 .one := ⟨by kernel_rfl⟩
instance tcl180 : TCells Try.prog 180 1 := ⟨by kernel_rfl, by decide⟩
instance tze180 : TZero Try.prog 180 (.nilfunc) := ⟨by kernel_rfl, rfl, by decide⟩
instance tsh181 : TSh Try.prog 181 .one := ⟨by kernel_rfl⟩
instance tcl181 : TCells Try.prog 181 1 := ⟨by kernel_rfl, by decide⟩
instance tze181 : TZero Try.prog 181 (.nilfunc) := ⟨by kernel_rfl, rfl, by decide⟩
instance tsh182 : TSh Try.prog 182 (.many 2) := ⟨by kernel_rfl⟩
instance tcl182 : TCells Try.prog 182 2 := ⟨by kernel_rfl, by decide⟩
instance tfl182x0 : TField Try.prog 182 0 0 3 := ⟨by kernel_rfl, kne (k := 1) (by kernel_rfl) (by decide)⟩
instance tfl182x1 : TField Try.prog 182 1 1 3 := ⟨by kernel_rfl, kne (k := 1) (by kernel_rfl) (by decide)⟩
instance tly182 : TLay Try.prog 182 [.int .i64 0, .int .i64 0] [(0, 1), (1, 1)] := ⟨by kernel_rfl⟩
instance tze182 : TZero Try.prog 182 (.agg [.int .i64 0, .int .i64 0]) := ⟨by kernel_rfl, rfl, by decide⟩
instance tsh183 : TSh Try.prog 183 (.many 2) := ⟨by kernel_rfl⟩
instance tcl183 : TCells Try.prog 183 2 := ⟨by kernel_rfl, by decide⟩
instance tfl183x0 : TField Try.prog 183 0 0 3 := ⟨by kernel_rfl, kne (k := 1) (by kernel_rfl) (by decide)⟩
instance tfl183x1 : TField Try.prog 183 1 1 3 := ⟨by kernel_rfl, kne (k := 1) (by kernel_rfl) (by decide)⟩
instance tly183 : TLay Try.prog 183 [.int .i64 0, .int .i64 0] [(0, 1), (1, 1)] := ⟨by kernel_rfl⟩
instance tze183 : TZero Try.prog 183 (.agg [.int .i64 0, .int .i64 0]) := ⟨by kernel_rfl, rfl, by decide⟩
instance tsh184 : TSh Try.prog 184 .one := ⟨by kernel_rfl⟩
instance tcl184 : TCells Try.prog 184 1 := ⟨by kernel_rfl, by decide⟩
instance tze184 : TZero Try.prog 184 (.nilfunc) := ⟨by kernel_rfl, rfl, by decide⟩
instance tsh185 : TSh Try.prog 185 .one := ⟨by kernel_rfl⟩
instance tcl185 : TCells Try.prog 185 1 := ⟨by kernel_rfl, by decide⟩
instance tze185 : TZero Try.prog 185 (.nilfunc) := ⟨by kernel_rfl, rfl, by decide⟩
instance tsh186 : TSh Try.prog 186 .one := ⟨by kernel_rfl⟩
instance tcl186 : TCells Try.prog 186 1 := ⟨by kernel_rfl, by decide⟩
instance tze186 : TZero Try.prog 186 (.nilfunc) := ⟨by kernel_rfl, rfl, by decide⟩
instance tsh187 : TSh Try.prog 187 .one := ⟨by kernel_rfl⟩
instance tcl187 : TCells Try.prog 187 1 := ⟨by kernel_rfl, by decide⟩
instance tsh188 : TSh Try.prog 188 .one := ⟨by kernel_rfl⟩
instance tcl188 : TCells Try.prog 188 1 := ⟨by kernel_rfl, by decide⟩
instance tze188 : TZero Try.prog 188 (.nilfunc) := ⟨by kernel_rfl, rfl, by decide⟩
instance tsh189 : TSh Try.prog 189 .one := ⟨by kernel_rfl⟩
instance tcl189 : TCells Try.prog 189 1 := ⟨by kernel_rfl, by decide⟩
instance tze189 : TZero Try.prog 189 (.nilfunc) := ⟨by kernel_rfl, rfl, by decide⟩
instance tsh190 : TSh Try.prog 190 .one := ⟨by kernel_rfl⟩
instance tcl190 : TCells Try.prog 190 1 := ⟨by kernel_rfl, by decide⟩
instance tze190 : TZero Try.prog 190 (.nilfunc) := ⟨by kernel_rfl, rfl, by decide⟩
instance tsh191 : TSh Try.prog 191 .one := ⟨by kernel_rfl⟩
instance tcl191 : TCells Try.prog 191 1 := ⟨by kernel_rfl, by decide⟩
instance tze191 : TZero Try.prog 191 (.nilfunc) := ⟨by kernel_rfl, rfl, by decide⟩
instance tsh192 : TSh Try.prog 192 .one := ⟨by kernel_rfl⟩
instance tcl192 : TCells Try.prog 192 1 := ⟨by kernel_rfl, by decide⟩
instance tze192 : TZero Try.prog 192 (.nilfunc) := ⟨by kernel_rfl, rfl, by decide⟩
instance tsh193 : TSh Try.prog 193 .one := ⟨by kernel_rfl⟩
instance tcl193 : TCells Try.prog 193 1 := ⟨by kernel_rfl, by decide⟩
instance tze193 : TZero Try.prog 193 (.nilfunc) := ⟨by kernel_rfl, rfl, by decide⟩
instance tsh194 : TSh Try.prog 194 .one := ⟨by kernel_rfl⟩
instance tcl194 : TCells Try.prog 194 1 := ⟨by kernel_rfl, by decide⟩
instance tze194 : TZero Try.prog 194 (.nilfunc) := ⟨by kernel_rfl, rfl, by decide⟩
instance tsh195 : TSh Try.prog 195 .one := ⟨by kernel_rfl⟩
instance tcl195 : TCells Try.prog 195 1 := ⟨by kernel_rfl, by decide⟩
instance tze195 : TZero Try.prog 195 (.nilfunc) := ⟨by kernel_rfl, rfl, by decide⟩
instance tsh196 : TSh Try.prog 196 .one := ⟨by kernel_rfl⟩
instance tcl196 : TCells Try.prog 196 1 := ⟨by kernel_rfl, by decide⟩
instance tsh197 : TSh Try.prog 197 .one := ⟨by kernel_rfl⟩
instance tcl197 : TCells Try.prog 197 1 := ⟨by kernel_rfl, by decide⟩
instance tze197 : TZero Try.prog 197 (.nilfunc) := ⟨by kernel_rfl, rfl, by decide⟩
instance tsh198 : TSh Try.prog 198 .one := ⟨by kernel_rfl⟩
instance tcl198 : TCells Try.prog 198 1 := ⟨by kernel_rfl, by decide⟩
instance tsl198 : TSlice Try.prog 198 35 6 := ⟨by kernel_rfl, by kernel_rfl, by decide⟩
instance tze198 : TZero Try.prog 198 (.nilsl) := ⟨by kernel_rfl, rfl, by decide⟩
instance tsh199 : TSh Try.prog 199 .one := ⟨by kernel_rfl⟩
instance tcl199 : TCells Try.prog 199 1 := ⟨by kernel_rfl, by decide⟩
instance tze199 : TZero Try.prog 199 (.nilfunc) := ⟨by kernel_rfl, rfl, by decide⟩
instance tsh200 : TSh Try.prog 200 .one := ⟨by kernel_rfl⟩
instance tcl200 : TCells Try.prog 200 1 := ⟨by kernel_rfl, by decide⟩
instance tze200 : TZero Try.prog 200 (.nilfunc) := ⟨by kernel_rfl, rfl, by decide⟩
instance tsh201 : TSh Try.prog 201 .one := ⟨by kernel_rfl⟩
instance tcl201 : TCells Try.prog 201 1 := ⟨by kernel_rfl, by decide⟩
instance tze201 : TZero Try.prog 201 (.nilfunc) := ⟨by kernel_rfl, rfl, by decide⟩
instance tsh202 : TSh Try.prog 202 .one := ⟨by kernel_rfl⟩
instance tcl202 : TCells Try.prog 202 1 := ⟨by kernel_rfl, by decide⟩
instance tze202 : TZero Try.prog 202 (.nilfunc) := ⟨by kernel_rfl, rfl, by decide⟩
instance tsh203 : TSh Try.prog 203 .one := ⟨by kernel_rfl⟩
instance tcl203 : TCells Try.prog 203 1 := ⟨by kernel_rfl, by decide⟩
instance tze203 : TZero Try.prog 203 (.nilfunc) := ⟨by kernel_rfl, rfl, by decide⟩
instance tsh204 : TSh Try.prog 204 .one := ⟨by kernel_rfl⟩
instance tcl204 : TCells Try.prog 204 1 := ⟨by kernel_rfl, by decide⟩
instance tze204 : TZero Try.prog 204 (.nilfunc) := ⟨by kernel_rfl, rfl, by decide⟩
instance tsh205 : TSh Try.prog 205 .one := ⟨by kernel_rfl⟩
instance tcl205 : TCells Try.prog 205 1 := ⟨by kernel_rfl, by decide⟩
instance tze205 : TZero Try.prog 205 (.nilfunc) := ⟨by kernel_rfl, rfl, by decide⟩
instance tsh206 : TSh Try.prog 206 .one := ⟨by kernel_rfl⟩
instance tcl206 : TCells Try.prog 206 1 := ⟨by kernel_rfl, by decide⟩
instance tze206 : TZero Try.prog 206 (.nilfunc) := ⟨by kernel_rfl, rfl, by decide⟩
instance tsh207 : TSh Try.prog 207 (.many 2) := ⟨by kernel_rfl⟩
instance tcl207 : TCells Try.prog 207 2 := ⟨by kernel_rfl, by decide⟩
instance tfl207x0 : TField Try.prog 207 0 0 28 := ⟨by kernel_rfl, kne (k := 1) (by kernel_rfl) (by decide)⟩
instance tfl207x1 : TField Try.prog 207 1 1 206 := ⟨by kernel_rfl, kne (k := 1) (by kernel_rfl) (by decide)⟩
instance tly207 : TLay Try.prog 207 [.int .i64 0, .nilfunc] [(0, 1), (1, 1)] := ⟨by kernel_rfl⟩
instance tze207 : TZero Try.prog 207 (.agg [.int .i64 0, .nilfunc]) := ⟨by kernel_rfl, rfl, by decide⟩
instance tsh208 : TSh Try.prog 208 (.many 2) := ⟨by kernel_rfl⟩
instance tcl208 : TCells Try.prog 208 2 := ⟨by kernel_rfl, by decide⟩
instance tfl208x0 : TField Try.prog 208 0 0 28 := ⟨by kernel_rfl, kne (k := 1) (by kernel_rfl) (by decide)⟩
instance tfl208x1 : TField Try.prog 208 1 1 206 := ⟨by kernel_rfl, kne (k := 1) (by kernel_rfl) (by decide)⟩
instance tly208 : TLay Try.prog 208 [.int .i64 0, .nilfunc] [(0, 1), (1, 1)] := ⟨by kernel_rfl⟩
instance tze208 : TZero Try.prog 208 (.agg [.int .i64 0, .nilfunc]) := ⟨by kernel_rfl, rfl, by decide⟩
instance tsh209 : TSh Try.prog 209 (.many 8) := ⟨by kernel_rfl⟩
instance tcl209 : TCells Try.prog 209 8 := ⟨by kernel_rfl, by decide⟩
instance tze209 : TZero Try.prog 209 (.agg [.int .i64 0, .nilfunc, .int .i64 0, .nilfunc, .int .i64 0, .nilfunc, .int .i64 0, .nilfunc]) := ⟨by kernel_rfl, rfl, by decide⟩
instance tsh210 : TSh Try.prog 210 .one := ⟨by kernel_rfl⟩
instance tcl210 : TCells Try.prog 210 1 := ⟨by kernel_rfl, by decide⟩
instance tze210 : TZero Try.prog 210 (.nilfunc) := ⟨by kernel_rfl, rfl, by decide⟩
instance tsh211 : TSh Try.prog 211 .one := ⟨by kernel_rfl⟩
instance tcl211 : TCells Try.prog 211 1 := ⟨by kernel_rfl, by decide⟩
instance tze211 : TZero Try.prog 211 (.nilfunc) := ⟨by kernel_rfl, rfl, by decide⟩
instance tsh212 : TSh Try.prog 212 .one := ⟨by kernel_rfl⟩
instance tcl212 : TCells Try.prog 212 1 := ⟨by kernel_rfl, by decide⟩
instance tze212 : TZero Try.prog 212 (.nilfunc) := ⟨by kernel_rfl, rfl, by decide⟩
instance tsh213 : TSh Try.prog 213 .one := ⟨by kernel_rfl⟩
instance tcl213 : TCells Try.prog 213 1 := ⟨by kernel_rfl, by decide⟩
instance tze213 : TZero Try.prog 213 (.nilfunc) := ⟨by kernel_rfl, rfl, by decide⟩
instance tsh214 : TSh Try.prog 214 (.many 5) := ⟨by kernel_rfl⟩
instance tcl214 : TCells Try.prog 214 5 := ⟨by kernel_rfl, by decide⟩
instance tfl214x0 : TField Try.prog 214 0 0 3 := ⟨by kernel_rfl, kne (k := 1) (by kernel_rfl) (by decide)⟩
instance tfl214x1 : TField Try.prog 214 1 1 3 := ⟨by kernel_rfl, kne (k := 1) (by kernel_rfl) (by decide)⟩
instance tfl214x2 : TField Try.prog 214 2 2 3 := ⟨by kernel_rfl, kne (k := 1) (by kernel_rfl) (by decide)⟩
instance tfl214x3 : TField Try.prog 214 3 3 3 := ⟨by kernel_rfl, kne (k := 1) (by kernel_rfl) (by decide)⟩
instance tfl214x4 : TField Try.prog 214 4 4 3 := ⟨by kernel_rfl, kne (k := 1) (by kernel_rfl) (by decide)⟩
instance tly214 : TLay Try.prog 214 [.int .i64 0, .int .i64 0, .int .i64 0, .int .i64 0, .int .i64 0] [(0, 1), (1, 1), (2, 1), (3, 1), (4, 1)] := ⟨by kernel_rfl⟩
instance tze214 : TZero Try.prog 214 (.agg [.int .i64 0, .int .i64 0, .int .i64 0, .int .i64 0, .int .i64 0]) := ⟨by kernel_rfl, rfl, by decide⟩
instance tsh215 : TSh Try.prog 215 (.many 5) := ⟨by kernel_rfl⟩
instance tcl215 : TCells Try.prog 215 5 := ⟨by kernel_rfl, by decide⟩
instance tfl215x0 : TField Try.prog 215 0 0 3 := ⟨by kernel_rfl, kne (k := 1) (by kernel_rfl) (by decide)⟩
instance tfl215x1 : TField Try.prog 215 1 1 3 := ⟨by kernel_rfl, kne (k := 1) (by kernel_rfl) (by decide)⟩
instance tfl215x2 : TField Try.prog 215 2 2 3 := ⟨by kernel_rfl, kne (k := 1) (by kernel_rfl) (by decide)⟩
instance tfl215x3 : TField Try.prog 215 3 3 3 := ⟨by kernel_rfl, kne (k := 1) (by kernel_rfl) (by decide)⟩
instance tfl215x4 : TField Try.prog 215 4 4 3 := ⟨by kernel_rfl, kne (k := 1) (by kernel_rfl) (by decide)⟩
instance tly215 : TLay Try.prog 215 [.int .i64 0, .int .i64 0, .int .i64 0, .int .i64 0, .int .i64 0] [(0, 1), (1, 1), (2, 1), (3, 1), (4, 1)] := ⟨by kernel_rfl⟩
instance tze215 : TZero Try.prog 215 (.agg [.int .i64 0, .int .i64 0, .int .i64 0, .int .i64 0, .int .i64 0]) := ⟨by kernel_rfl, rfl, by decide⟩
instance tsh216 : TSh Try.prog 216 .one := ⟨by kernel_rfl⟩
instance tcl216 : TCells Try.prog 216 1 := ⟨by kernel_rfl, by decide⟩
instance tze216 : TZero Try.prog 216 (.nilfunc) := ⟨by kernel_rfl, rfl, by decide⟩
instance tsh217 : TSh Try.prog 217 .one := ⟨by kernel_rfl⟩
instance tcl217 : TCells Try.prog 217 1 := ⟨by kernel_rfl, by decide⟩
instance tze217 : TZero Try.prog 217 (.nilfunc) := ⟨by kernel_rfl, rfl, by decide⟩
instance tsh218 : TSh Try.prog 218 .one := ⟨by kernel_rfl⟩
instance tcl218 : TCells Try.prog 218 1 := ⟨by kernel_rfl, by decide⟩
instance tze218 : TZero Try.prog 218 (.nilfunc) := ⟨by kernel_rfl, rfl, by decide⟩
instance tsh219 : TSh Try.prog 219 .one := ⟨by kernel_rfl⟩
instance tcl219 : TCells Try.prog 219 1 := ⟨by kernel_rfl, by decide⟩
instance tze219 : TZero Try.prog 219 (.nilfunc) := ⟨by kernel_rfl, rfl, by decide⟩
instance tsh220 : TSh Try.prog 220 .one := ⟨by kernel_rfl⟩
instance tcl220 : TCells Try.prog 220 1 := ⟨by kernel_rfl, by decide⟩
instance tze220 : TZero Try.prog 220 (.nilfunc) := ⟨by kernel_rfl, rfl, by decide⟩
instance tsh221 : TSh Try.prog 221 .one := ⟨by kernel_rfl⟩
instance tcl221 : TCells Try.prog 221 1 := ⟨by kernel_rfl, by decide⟩
instance tze221 : TZero Try.prog 221 (.nilfunc) := ⟨by kernel_rfl, rfl, by decide⟩
instance tsh222 : TSh Try.prog 222 .one := ⟨by kernel_rfl⟩
instance tcl222 : TCells Try.prog 222 1 := ⟨by kernel_rfl, by decide⟩
instance tze222 : TZero Try.prog 222 (.nilfunc) := ⟨by kernel_rfl, rfl, by decide⟩
instance tsh223 : TSh Try.prog 223 .one := ⟨by kernel_rfl⟩
instance tcl223 : TCells Try.prog 223 1 := ⟨by kernel_rfl, by decide⟩
instance tze223 : TZero Try.prog 223 (.nilfunc) := ⟨by kernel_rfl, rfl, by decide⟩
instance tsh224 : TSh Try.prog 224 .one := ⟨by kernel_rfl⟩
instance tcl224 : TCells Try.prog 224 1 := ⟨by kernel_rfl, by decide⟩
instance tsh225 : TSh Try.prog 225 .one := ⟨by kernel_rfl⟩
instance tcl225 : TCells Try.prog 225 1 := ⟨by kernel_rfl, by decide⟩
instance tze225 : TZero Try.prog 225 (.nilfunc) := ⟨by kernel_rfl, rfl, by decide⟩
instance tsh226 : TSh Try.prog 226 .one := ⟨by kernel_rfl⟩
instance tcl226 : TCells Try.prog 226 1 := ⟨by kernel_rfl, by decide⟩
instance tze226 : TZero Try.prog 226 (.nilfunc) := ⟨by kernel_rfl, rfl, by decide⟩
instance tsh227 : TSh Try.prog 227 .one := ⟨by kernel_rfl⟩
instance tcl227 : TCells Try.prog 227 1 := ⟨by kernel_rfl, by decide⟩
instance tsh228 : TSh Try.prog 228 .one := ⟨by kernel_rfl⟩
instance tcl228 : TCells Try.prog 228 1 := ⟨by kernel_rfl, by decide⟩
instance tze228 : TZero Try.prog 228 (.nilfunc) := ⟨by kernel_rfl, rfl, by decide⟩
instance tsh229 : TSh Try.prog 229 .one := ⟨by kernel_rfl⟩
instance tcl229 : TCells Try.prog 229 1 := ⟨by kernel_rfl, by decide⟩
instance tze229 : TZero Try.prog 229 (.nilfunc) := ⟨by kernel_rfl, rfl, by decide⟩
instance tsh230 : TSh Try.prog 230 .one := ⟨by kernel_rfl⟩
instance tcl230 : TCells Try.prog 230 1 := ⟨by kernel_rfl, by decide⟩
instance tze230 : TZero Try.prog 230 (.nilfunc) := ⟨by kernel_rfl, rfl, by decide⟩
instance tsh231 : TSh Try.prog 231 .one := ⟨by kernel_rfl⟩
instance tcl231 : TCells Try.prog 231 1 := ⟨by kernel_rfl, by decide⟩
instance tze231 : TZero Try.prog 231 (.nilfunc) := ⟨by kernel_rfl, rfl, by decide⟩
instance tsh232 : TSh Try.prog 232 .one := ⟨by kernel_rfl⟩
instance tcl232 : TCells Try.prog 232 1 := ⟨by kernel_rfl, by decide⟩
instance tze232 : TZero Try.prog 232 (.nilfunc) := ⟨by kernel_rfl, rfl, by decide⟩
instance tsh233 : TSh Try.prog 233 .one := ⟨by kernel_rfl⟩
instance tcl233 : TCells Try.prog 233 1 := ⟨by kernel_rfl, by decide⟩
instance tze233 : TZero Try.prog 233 (.nilfunc) := ⟨by kernel_rfl, rfl, by decide⟩
instance tsh234 : TSh Try.prog 234 .one := ⟨by kernel_rfl⟩
instance tcl234 : TCells Try.prog 234 1 := ⟨by kernel_rfl, by decide⟩
instance tze234 : TZero Try.prog 234 (.nilfunc) := ⟨by kernel_rfl, rfl, by decide⟩
instance tsh235 : TSh Try.prog 235 .one := ⟨by kernel_rfl⟩
instance tcl235 : TCells Try.prog 235 1 := ⟨by kernel_rfl, by decide⟩
instance tze235 : TZero Try.prog 235 (.nilfunc) := ⟨by kernel_rfl, rfl, by decide⟩
instance tsh236 : TSh Try.prog 236 .one := ⟨by kernel_rfl⟩
instance tcl236 : TCells Try.prog 236 1 := ⟨by kernel_rfl, by decide⟩
instance tze236 : TZero Try.prog 236 (.nilfunc) := ⟨by kernel_rfl, rfl, by decide⟩
instance tsh237 : TSh Try.prog 237 .one := ⟨by kernel_rfl⟩
instance tcl237 : TCells Try.prog 237 1 := ⟨by kernel_rfl, by decide⟩
instance tze237 : TZero Try.prog 237 (.nilfunc) := ⟨by kernel_rfl, rfl, by decide⟩
instance tsh238 : TSh Try.prog 238 .one := ⟨by kernel_rfl⟩
instance tcl238 : TCells Try.prog 238 1 := ⟨by kernel_rfl, by decide⟩
instance tze238 : TZero Try.prog 238 (.int .u64 0) := ⟨by kernel_rfl, rfl, by decide⟩
instance tsh239 : TSh Try.prog 239 .one := ⟨by kernel_rfl⟩
instance tcl239 : TCells Try.prog 239 1 := ⟨by kernel_rfl, by decide⟩
instance tze239 : TZero Try.prog 239 (.nilfunc) := ⟨by kernel_rfl, rfl, by decide⟩
instance tsh240 : TSh Try.prog 240 .one := ⟨by kernel_rfl⟩
instance tcl240 : TCells Try.prog 240 1 := ⟨by kernel_rfl, by decide⟩
instance tze240 : TZero Try.prog 240 (.int .i64 0) := ⟨by kernel_rfl, rfl, by decide⟩
instance tsh241 : TSh Try.prog 241 .one := ⟨by kernel_rfl⟩
instance tcl241 : TCells Try.prog 241 1 := ⟨by kernel_rfl, by decide⟩
instance tsh242 : TSh Try.prog 242 .one := ⟨by kernel_rfl⟩
instance tcl242 : TCells Try.prog 242 1 := ⟨by kernel_rfl, by decide⟩
instance tze242 : TZero Try.prog 242 (.nilfunc) := ⟨by kernel_rfl, rfl, by decide⟩
instance tsh243 : TSh Try.prog 243 .one := ⟨by kernel_rfl⟩
instance tcl243 : TCells Try.prog 243 1 := ⟨by kernel_rfl, by decide⟩
instance tze243 : TZero Try.prog 243 (.nilfunc) := ⟨by kernel_rfl, rfl, by decide⟩
instance tsh244 : TSh Try.prog 244 .one := ⟨by kernel_rfl⟩
instance tcl244 : TCells Try.prog 244 1 := ⟨by kernel_rfl, by decide⟩
instance tze244 : TZero Try.prog 244 (.nilfunc) := ⟨by kernel_rfl, rfl, by decide⟩
instance tsh245 : TSh Try.prog 245 .one := ⟨by kernel_rfl⟩
instance tcl245 : TCells Try.prog 245 1 := ⟨by kernel_rfl, by decide⟩
instance tze245 : TZero Try.prog 245 (.nilfunc) := ⟨by kernel_rfl, rfl, by decide⟩
instance tsh246 : TSh Try.prog 246 .one := ⟨by kernel_rfl⟩
instance tcl246 : TCells Try.prog 246 1 := ⟨by kernel_rfl, by decide⟩
instance tze246 : TZero Try.prog 246 (.nilfunc) := ⟨by kernel_rfl, rfl, by decide⟩
instance tsh247 : TSh Try.prog 247 .one := ⟨by kernel_rfl⟩
instance tcl247 : TCells Try.prog 247 1 := ⟨by kernel_rfl, by decide⟩
instance tze247 : TZero Try.prog 247 (.nilfunc) := ⟨by kernel_rfl, rfl, by decide⟩
instance tsh248 : TSh Try.prog 248 .one := ⟨by kernel_rfl⟩
instance tcl248 : TCells Try.prog 248 1 := ⟨by kernel_rfl, by decide⟩
instance tze248 : TZero Try.prog 248 (.int .u32 0) := ⟨by kernel_rfl, rfl, by decide⟩
instance tsh249 : TSh Try.prog 249 .one := ⟨by kernel_rfl⟩
instance tcl249 : TCells Try.prog 249 1 := ⟨by kernel_rfl, by decide⟩
instance tze249 : TZero Try.prog 249 (.nilfunc) := ⟨by kernel_rfl, rfl, by decide⟩
instance tsh250 : TSh Try.prog 250 .one := ⟨by kernel_rfl⟩
instance tcl250 : TCells Try.prog 250 1 := ⟨by kernel_rfl, by decide⟩
instance tze250 : TZero Try.prog 250 (.int .u64 0) := ⟨by kernel_rfl, rfl, by decide⟩
instance tsh251 : TSh Try.prog 251 .one := ⟨by kernel_rfl⟩
instance tcl251 : TCells Try.prog 251 1 := ⟨by kernel_rfl, by decide⟩
instance tze251 : TZero Try.prog 251 (.int .u64 0) := ⟨by kernel_rfl, rfl, by decide⟩
instance tsh252 : TSh Try.prog 252 .one := ⟨by kernel_rfl⟩
instance tcl252 : TCells Try.prog 252 1 := ⟨by kernel_rfl, by decide⟩
instance tze252 : TZero Try.prog 252 (.nilfunc) := ⟨by kernel_rfl, rfl, by decide⟩
instance tsh253 : TSh Try.prog 253 .one := ⟨by kernel_rfl⟩
instance tcl253 : TCells Try.prog 253 1 := ⟨by kernel_rfl, by decide⟩
instance tze253 : TZero Try.prog 253 (.nilfunc) := ⟨by kernel_rfl, rfl, by decide⟩
instance tsh254 : TSh Try.prog 254 .one := ⟨by kernel_rfl⟩
instance tcl254 : TCells Try.prog 254 1 := ⟨by kernel_rfl, by decide⟩
instance tze254 : TZero Try.prog 254 (.nilfunc) := ⟨by kernel_rfl, rfl, by decide⟩
instance tsh255 : TSh Try.prog 255 .one := ⟨by kernel_rfl⟩
instance tcl255 : TCells Try.prog 255 1 := ⟨by kernel_rfl, by decide⟩
instance tze255 : TZero Try.prog 255 (.nilptr) := ⟨by kernel_rfl, rfl, by decide⟩
instance tsh256 : TSh Try.prog 256 .one := ⟨by kernel_rfl⟩
instance tcl256 : TCells Try.prog 256 1 := ⟨by kernel_rfl, by decide⟩
instance tze256 : TZero Try.prog 256 (.nilfunc) := ⟨by kernel_rfl, rfl, by decide⟩
instance tsh257 : TSh Try.prog 257 .one := ⟨by kernel_rfl⟩
instance tcl257 : TCells Try.prog 257 1 := ⟨by kernel_rfl, by decide⟩
instance tze257 : TZero Try.prog 257 (.nilptr) := ⟨by kernel_rfl, rfl, by decide⟩
instance tsh258 : TSh Try.prog 258 .one := ⟨by kernel_rfl⟩
instance tcl258 : TCells Try.prog 258 1 := ⟨by kernel_rfl, by decide⟩
instance tsh259 : TSh Try.prog 259 .one := ⟨by kernel_rfl⟩
instance tcl259 : TCells Try.prog 259 1 := ⟨by kernel_rfl, by decide⟩
instance tze259 : TZero Try.prog 259 (.nilfunc) := ⟨by kernel_rfl, rfl, by decide⟩
instance tsh260 : TSh Try.prog 260 .one := ⟨by kernel_rfl⟩
instance tcl260 : TCells Try.prog 260 1 := ⟨by kernel_rfl, by decide⟩
instance tze260 : TZero Try.prog 260 (.nilfunc) := ⟨by kernel_rfl, rfl, by decide⟩
instance tsh261 : TSh Try.prog 261 (.many 4) := ⟨by kernel_rfl⟩
instance tcl261 : TCells Try.prog 261 4 := ⟨by kernel_rfl, by decide⟩
instance tfl261x0 : TField Try.prog 261 0 0 17 := ⟨by kernel_rfl, kne (k := 1) (by kernel_rfl) (by decide)⟩
instance tfl261x1 : TField Try.prog 261 1 1 17 := ⟨by kernel_rfl, kne (k := 1) (by kernel_rfl) (by decide)⟩
instance tfl261x2 : TField Try.prog 261 2 2 17 := ⟨by kernel_rfl, kne (k := 1) (by kernel_rfl) (by decide)⟩
instance tfl261x3 : TField Try.prog 261 3 3 9 := ⟨by kernel_rfl, kne (k := 1) (by kernel_rfl) (by decide)⟩
instance tly261 : TLay Try.prog 261 [.nilptr, .nilptr, .nilptr, .str ByteArray.empty] [(0, 1), (1, 1), (2, 1), (3, 1)] := ⟨by kernel_rfl⟩
instance tze261 : TZero Try.prog 261 (.agg [.nilptr, .nilptr, .nilptr, .str ByteArray.empty]) := ⟨by kernel_rfl, rfl, by decide⟩
instance tsh262 : TSh Try.prog 262 (.many 4) := ⟨by kernel_rfl⟩
instance tcl262 : TCells Try.prog 262 4 := ⟨by kernel_rfl, by decide⟩
instance tfl262x0 : TField Try.prog 262 0 0 17 := ⟨by kernel_rfl, kne (k := 1) (by kernel_rfl) (by decide)⟩
instance tfl262x1 : TField Try.prog 262 1 1 17 := ⟨by kernel_rfl, kne (k := 1) (by kernel_rfl) (by decide)⟩
instance tfl262x2 : TField Try.prog 262 2 2 17 := ⟨by kernel_rfl, kne (k := 1) (by kernel_rfl) (by decide)⟩
instance tfl262x3 : TField Try.prog 262 3 3 9 := ⟨by kernel_rfl, kne (k := 1) (by kernel_rfl) (by decide)⟩
instance tly262 : TLay Try.prog 262 [.nilptr, .nilptr, .nilptr, .str ByteArray.empty] [(0, 1), (1, 1), (2, 1), (3, 1)] := ⟨by kernel_rfl⟩
instance tze262 : TZero Try.prog 262 (.agg [.nilptr, .nilptr, .nilptr, .str ByteArray.empty]) := ⟨by kernel_rfl, rfl, by decide⟩
instance tsh266 : TSh Try.prog 266 .one := ⟨by kernel_rfl⟩
instance tcl266 : TCells Try.prog 266 1 := ⟨by kernel_rfl, by decide⟩
instance tze266 : TZero Try.prog 266 (.nilfunc) := ⟨by kernel_rfl, rfl, by decide⟩
instance tsh267 : TSh Try.prog 267 .one := ⟨by kernel_rfl⟩
instance tcl267 : TCells Try.prog 267 1 := ⟨by kernel_rfl, by decide⟩
instance tze267 : TZero Try.prog 267 (.int .u8 0) := ⟨by kernel_rfl, rfl, by decide⟩
instance tsh268 : TSh Try.prog 268 .one := ⟨by kernel_rfl⟩
instance tcl268 : TCells Try.prog 268 1 := ⟨by kernel_rfl, by decide⟩
instance tze268 : TZero Try.prog 268 (.int .u8 0) := ⟨by kernel_rfl, rfl, by decide⟩
instance tsh269 : TSh Try.prog 269 .one := ⟨by kernel_rfl⟩
instance tcl269 : TCells Try.prog 269 1 := ⟨by kernel_rfl, by decide⟩
instance tze269 : TZero Try.prog 269 (.nilfunc) := ⟨by kernel_rfl, rfl, by decide⟩
instance tsh270 : TSh Try.prog 270 .one := ⟨by kernel_rfl⟩
instance tcl270 : TCells Try.prog 270 1 := ⟨by kernel_rfl, by decide⟩
instance tze270 : TZero Try.prog 270 (.nilptr) := ⟨by kernel_rfl, rfl, by decide⟩
instance tsh271 : TSh Try.prog 271 .one := ⟨by kernel_rfl⟩
instance tcl271 : TCells Try.prog 271 1 := ⟨by kernel_rfl, by decide⟩
instance tze271 : TZero Try.prog 271 (.int .i32 0) := ⟨by kernel_rfl, rfl, by decide⟩
instance tsh272 : TSh Try.prog 272 .one := ⟨by kernel_rfl⟩
instance tcl272 : TCells Try.prog 272 1 := ⟨by kernel_rfl, by decide⟩
instance tze272 : TZero Try.prog 272 (.int .i32 0) := ⟨by kernel_rfl, rfl, by decide⟩
instance tsh273 : TSh Try.prog 273 (.many 11) := ⟨by kernel_rfl⟩
instance tcl273 : TCells Try.prog 273 11 := ⟨by kernel_rfl, by decide⟩
instance tfl273x0 : TField Try.prog 273 0 0 12 := ⟨by kernel_rfl, kne (k := 1) (by kernel_rfl) (by decide)⟩
instance tfl273x1 : TField Try.prog 273 1 1 12 := ⟨by kernel_rfl, kne (k := 1) (by kernel_rfl) (by decide)⟩
instance tfl273x2 : TField Try.prog 273 2 2 248 := ⟨by kernel_rfl, kne (k := 1) (by kernel_rfl) (by decide)⟩
instance tfl273x3 : TField Try.prog 273 3 3 267 := ⟨by kernel_rfl, kne (k := 1) (by kernel_rfl) (by decide)⟩
instance tfl273x4 : TField Try.prog 273 4 4 5 := ⟨by kernel_rfl, kne (k := 1) (by kernel_rfl) (by decide)⟩
instance tfl273x5 : TField Try.prog 273 5 5 5 := ⟨by kernel_rfl, kne (k := 1) (by kernel_rfl) (by decide)⟩
instance tfl273x6 : TField Try.prog 273 6 6 268 := ⟨by kernel_rfl, kne (k := 1) (by kernel_rfl) (by decide)⟩
instance tfl273x7 : TField Try.prog 273 7 7 269 := ⟨by kernel_rfl, kne (k := 1) (by kernel_rfl) (by decide)⟩
instance tfl273x8 : TField Try.prog 273 8 8 270 := ⟨by kernel_rfl, kne (k := 1) (by kernel_rfl) (by decide)⟩
instance tfl273x9 : TField Try.prog 273 9 9 271 := ⟨by kernel_rfl, kne (k := 1) (by kernel_rfl) (by decide)⟩
instance tfl273x10 : TField Try.prog 273 10 10 272 := ⟨by kernel_rfl, kne (k := 1) (by kernel_rfl) (by decide)⟩
instance tly273 : TLay Try.prog 273 [.int .u64 0, .int .u64 0, .int .u32 0, .int .u8 0, .int .u8 0, .int .u8 0, .int .u8 0, .nilfunc, .nilptr, .int .i32 0, .int .i32 0] [(0, 1), (1, 1), (2, 1), (3, 1), (4, 1), (5, 1), (6, 1), (7, 1), (8, 1), (9, 1), (10, 1)] := ⟨by kernel_rfl⟩
instance tze273 : TZero Try.prog 273 (.agg [.int .u64 0, .int .u64 0, .int .u32 0, .int .u8 0, .int .u8 0, .int .u8 0, .int .u8 0, .nilfunc, .nilptr, .int .i32 0, .int .i32 0]) := ⟨by kernel_rfl, rfl, by decide⟩
instance tsh274 : TSh Try.prog 274 (.many 11) := ⟨by kernel_rfl⟩
instance tcl274 : TCells Try.prog 274 11 := ⟨by kernel_rfl, by decide⟩
instance tfl274x0 : TField Try.prog 274 0 0 12 := ⟨by kernel_rfl, kne (k := 1) (by kernel_rfl) (by decide)⟩
instance tfl274x1 : TField Try.prog 274 1 1 12 := ⟨by kernel_rfl, kne (k := 1) (by kernel_rfl) (by decide)⟩
instance tfl274x2 : TField Try.prog 274 2 2 248 := ⟨by kernel_rfl, kne (k := 1) (by kernel_rfl) (by decide)⟩
instance tfl274x3 : TField Try.prog 274 3 3 267 := ⟨by kernel_rfl, kne (k := 1) (by kernel_rfl) (by decide)⟩
instance tfl274x4 : TField Try.prog 274 4 4 5 := ⟨by kernel_rfl, kne (k := 1) (by kernel_rfl) (by decide)⟩
instance tfl274x5 : TField Try.prog 274 5 5 5 := ⟨by kernel_rfl, kne (k := 1) (by kernel_rfl) (by decide)⟩
instance tfl274x6 : TField Try.prog 274 6 6 268 := ⟨by kernel_rfl, kne (k := 1) (by kernel_rfl) (by decide)⟩
instance tfl274x7 : TField Try.prog 274 7 7 269 := ⟨by kernel_rfl, kne (k := 1) (by kernel_rfl) (by decide)⟩
instance tfl274x8 : TField Try.prog 274 8 8 270 := ⟨by kernel_rfl, kne (k := 1) (by kernel_rfl) (by decide)⟩
instance tfl274x9 : TField Try.prog 274 9 9 271 := ⟨by kernel_rfl, kne (k := 1) (by kernel_rfl) (by decide)⟩
instance tfl274x10 : TField Try.prog 274 10 10 272 := ⟨by kernel_rfl, kne (k := 1) (by kernel_rfl) (by decide)⟩
instance tly274 : TLay Try.prog 274 [.int .u64 0, .int .u64 0, .int .u32 0, .int .u8 0, .int .u8 0, .int .u8 0, .int .u8 0, .nilfunc, .nilptr, .int .i32 0, .int .i32 0] [(0, 1), (1, 1), (2, 1), (3, 1), (4, 1), (5, 1), (6, 1), (7, 1), (8, 1), (9, 1), (10, 1)] := ⟨by kernel_rfl⟩
instance tze274 : TZero Try.prog 274 (.agg [.int .u64 0, .int .u64 0, .int .u32 0, .int .u8 0, .int .u8 0, .int .u8 0, .int .u8 0, .nilfunc, .nilptr, .int .i32 0, .int .i32 0]) := ⟨by kernel_rfl, rfl, by decide⟩
instance tsh275 : TSh Try.prog 275 .one := ⟨by kernel_rfl⟩
instance tcl275 : TCells Try.prog 275 1 := ⟨by kernel_rfl, by decide⟩
instance tze275 : TZero Try.prog 275 (.nilptr) := ⟨by kernel_rfl, rfl, by decide⟩
end Go.Pv.Tf

open Go Go.Proofs Go.Pv
set_option maxHeartbeats 1000000
set_option maxRecDepth 100000
set_option linter.unusedSimpArgs false
set_option linter.unusedVariables false
namespace Go.Pv.Soil

theorem mix : Try.prog.follows .mixedOrders = true := by decide +kernel

theorem c38 (n lo hi : Int) : Contract Try.prog 38 [.int .i64 n, .int .i64 lo, .int .i64 hi] (.ret (.bool (decide (lo ≤ n ∧ n ≤ hi)))) := by
  refine contract_of mix Try.func38 rfl rfl (by rw [Try.ntmps38]; exact Nat.le_of_ble_eq_true rfl) ?_; rw [Try.results38, Try.ntmps38]; simp only [argsE, Nat.reduceAdd]
  repeat' first
           | (with_reducible apply go_op)
           | (with_reducible apply go_next)
           | ((with_reducible (show evOp _ _ _ _ _ _)); first
             | ((with_reducible (show evOp _ (.move _) _ _ _ _)) ; first | ((with_reducible apply go_mv_int); rfl; rfl) | ((with_reducible apply go_mv_bool); rfl; rfl))
             | ((with_reducible apply go_as))
             | (((with_reducible apply go_cmp); rfl; rfl; rfl; rfl))
             | (((with_reducible apply go_pick); rfl; rfl; rfl)))
           | ((with_reducible (show evOps _ _ _ _ _ _)); first
             | (with_reducible apply go_nil)
             | ((with_reducible apply go_run); rfl; rfl)
             | ((with_reducible apply go_pass); rfl; rfl; rfl)
             | (((with_reducible apply go_guard); rfl) <;> (intro h; simp only [h, Bool.not_true, Bool.not_false]; (try with_reducible (refine ⟨rfl, ?_⟩)); try simp only [decide_eq_true_eq, decide_eq_false_iff_not, Bool.not_eq_true', Bool.not_eq_false', Bool.not_true, Bool.not_false] at h; try exact absurd trivial h)))
           | ((with_reducible (show evG _ _ _ _ _)); first
             | (with_reducible apply go_seq)
             | (with_reducible apply go_region)
             | (with_reducible apply go_ret))
           | (with_reducible apply go_kseq)
           | ((with_reducible apply end_bool); rfl)
  all_goals (simp at *; try omega)
theorem c108 (n lo hi : Int) : Contract Try.prog 108 [.int .i64 n, .int .i64 lo, .int .i64 hi] (.ret (.bool (decide (lo ≤ n ∧ n ≤ hi)))) := by
  refine contract_of mix Try.func108 rfl rfl (by rw [Try.ntmps108]; exact Nat.le_of_ble_eq_true rfl) ?_; rw [Try.results108, Try.ntmps108]; simp only [argsE, Nat.reduceAdd]
  repeat' first
           | (with_reducible apply go_op)
           | (with_reducible apply go_next)
           | ((with_reducible (show evOp _ _ _ _ _ _)); first
             | ((with_reducible (show evOp _ (.move _) _ _ _ _)) ; first | ((with_reducible apply go_mv_int); rfl; rfl) | ((with_reducible apply go_mv_bool); rfl; rfl))
             | ((with_reducible apply go_as))
             | (((with_reducible apply go_cmp); rfl; rfl; rfl; rfl))
             | (((with_reducible apply go_pick); rfl; rfl; rfl)))
           | ((with_reducible (show evOps _ _ _ _ _ _)); first
             | (with_reducible apply go_nil)
             | ((with_reducible apply go_run); rfl; rfl)
             | ((with_reducible apply go_pass); rfl; rfl; rfl)
             | (((with_reducible apply go_guard); rfl) <;> (intro h; simp only [h, Bool.not_true, Bool.not_false]; (try with_reducible (refine ⟨rfl, ?_⟩)); try simp only [decide_eq_true_eq, decide_eq_false_iff_not, Bool.not_eq_true', Bool.not_eq_false', Bool.not_true, Bool.not_false] at h; try exact absurd trivial h)))
           | ((with_reducible (show evG _ _ _ _ _)); first
             | (with_reducible apply go_seq)
             | (with_reducible apply go_region)
             | (with_reducible apply go_ret))
           | (with_reducible apply go_kseq)
           | ((with_reducible apply end_bool); rfl)
  all_goals (simp at *; try omega)

def letter (c : Int) : Bool := decide ((97 ≤ c ∧ c ≤ 122) ∨ (65 ≤ c ∧ c ≤ 90))
def chOK (i : Nat) (c : Int) : Bool := letter c || (decide (i ≠ 0) && decide (c = 45 ∨ (48 ≤ c ∧ c ≤ 57)))
def nameOK (s : ByteArray) : Bool := decide (1 ≤ s.size ∧ s.size ≤ 12) && (List.range s.size).all fun i => chOK i (byteAt s i)

theorem nameOK_size {s : ByteArray} (h : s.size < 1 ∨ 12 < s.size) : false = nameOK s := by
  have : decide (1 ≤ s.size ∧ s.size ≤ 12) = false := by simp; omega
  simp only [nameOK, this, Bool.false_and]

theorem nameOK_not {s : ByteArray} {i : Nat} (hi : i < s.size) (h : chOK i (byteAt s i) = false) : false = nameOK s := by
  have : ((List.range s.size).all fun i => chOK i (byteAt s i)) = false := by
    rw [List.all_eq_false]
    exact ⟨i, by simpa using hi, by simp [h]⟩
  simp only [nameOK, this, Bool.and_false]

theorem nameOK_yes {s : ByteArray} (h1 : ¬ s.size < 1) (h2 : ¬ 12 < s.size) (h : ∀ j, j < s.size → chOK j (byteAt s j) = true) : true = nameOK s := by
  have e : ((List.range s.size).all fun i => chOK i (byteAt s i)) = true := by
    rw [List.all_eq_true]
    exact fun j hj => h j (by simpa using hj)
  have e2 : decide (1 ≤ s.size ∧ s.size ≤ 12) = true := by simp; omega
  simp only [nameOK, e, e2, Bool.and_true]

theorem chars_step {s : ByteArray} {i : Nat} (hC : ∀ j, j < i → chOK j (byteAt s j) = true) (h : chOK i (byteAt s i) = true) : ∀ j, j < i + 1 → chOK j (byteAt s j) = true := fun j hj => by
  rcases Nat.lt_succ_iff_lt_or_eq.1 hj with h' | rfl
  · exact hC j h'
  · exact h

theorem chOK_yes {i : Nat} {c : Int} (h : ((97 ≤ c ∧ c ≤ 122) ∨ (65 ≤ c ∧ c ≤ 90)) ∨ (i ≠ 0 ∧ (c = 45 ∨ (48 ≤ c ∧ c ≤ 57)))) : chOK i c = true := by
  simpa only [chOK, letter, Bool.or_eq_true, Bool.and_eq_true, decide_eq_true_eq] using h
theorem chOK_no {i : Nat} {c : Int} (h : ¬ (((97 ≤ c ∧ c ≤ 122) ∨ (65 ≤ c ∧ c ≤ 90)) ∨ (i ≠ 0 ∧ (c = 45 ∨ (48 ≤ c ∧ c ≤ 57))))) : chOK i c = false := by
  rw [← Bool.not_eq_true]
  simpa only [chOK, letter, Bool.or_eq_true, Bool.and_eq_true, decide_eq_true_eq] using h

theorem c137 (s : ByteArray) : Contract Try.prog 137 [.str s] (.ret (.bool (nameOK s))) := by
  refine contract_of mix Try.func137 rfl rfl (by rw [Try.ntmps137]; exact Nat.le_of_ble_eq_true rfl) ?_; rw [Try.results137, Try.ntmps137]; simp only [argsE, Nat.reduceAdd]
  repeat' first
           | (with_reducible apply go_op)
           | (with_reducible apply go_next)
           | ((with_reducible (show evOp _ _ _ _ _ _)); first
             | ((with_reducible (show evOp _ (.move _) _ _ _ _)) ; first | ((with_reducible apply go_mv_int); rfl; rfl) | ((with_reducible apply go_mv_bool); rfl; rfl) | ((with_reducible apply go_mv_str); rfl; rfl))
             | ((with_reducible apply go_as))
             | (((with_reducible apply go_cmp); rfl; rfl; rfl; rfl))
             | (((with_reducible apply go_len_str); rfl; rfl))
             | (((with_reducible apply go_pick); rfl; rfl; rfl)))
           | ((with_reducible (show evOps _ _ _ _ _ _)); first
             | (with_reducible apply go_nil)
             | ((with_reducible apply go_run); rfl; rfl)
             | ((with_reducible apply go_pass); rfl; rfl; rfl)
             | (((with_reducible apply go_guard); rfl) <;> (intro h; simp only [h, Bool.not_true, Bool.not_false]; (try with_reducible (refine ⟨rfl, ?_⟩)); try simp only [decide_eq_true_eq, decide_eq_false_iff_not, Bool.not_eq_true', Bool.not_eq_false', Bool.not_true, Bool.not_false] at h; try exact absurd trivial h)))
           | ((with_reducible (show evG _ _ _ _ _)); first
             | (with_reducible apply go_seq)
             | (with_reducible apply go_region)
             | ((with_reducible apply go_cond_t); rfl; rfl)
             | (((with_reducible apply go_cond); rfl) <;> (intro h; simp only [h]; try simp only [decide_eq_true_eq, decide_eq_false_iff_not, Bool.not_eq_true', Bool.not_eq_false', Bool.not_true, Bool.not_false] at h; try exact absurd trivial h))
             | (with_reducible apply go_ret)
             | (with_reducible apply go_skipc)
             | (with_reducible apply go_block))
           | (with_reducible apply go_kseq)
           | (with_reducible apply go_kseq_ret)
           | ((with_reducible apply end_bool); rfl)
  · exact nameOK_size (by omega)
  rotate_left
  · exact nameOK_size (by omega)
  · refine go_count s.size (fun i => ⟨[(16, .int .i64 i), (15, .int .i64 s.size), (0, .str s)], [], 0, 55⟩) (fun i => ∀ j, j < i → chOK j (byteAt s j) = true) (entails_eq (k := 0) (ns := []) (ks := [16, 15, 0]) [] rfl (by simp) rfl) (by omega) ?_
    intro i hi hC
    repeat' first
           | (with_reducible apply go_op)
           | (with_reducible apply go_next)
           | ((with_reducible (show evOp _ _ _ _ _ _)); first
             | ((with_reducible (show evOp _ (.move _) _ _ _ _)) ; first | ((with_reducible apply go_mv_int); rfl; rfl) | ((with_reducible apply go_mv_bool); rfl; rfl) | ((with_reducible apply go_mv_str); rfl; rfl))
             | ((with_reducible apply go_as))
             | ((with_reducible (show evOp _ (.binOp _ _ _ _ _) _ _ _ _)) ; first | ((with_reducible apply go_cmp); rfl; rfl; rfl; rfl) | ((with_reducible apply go_add); rfl; rfl; rfl; omega))
             | (((with_reducible apply go_index_str); rfl; rfl; rfl; omega))
             | (((with_reducible apply go_not); rfl; rfl))
             | (((with_reducible apply go_pick); rfl; rfl; rfl)))
           | ((with_reducible (show evOps _ _ _ _ _ _)); first
             | (with_reducible apply go_nil)
             | ((with_reducible apply go_run); rfl; rfl)
             | ((with_reducible apply go_pass); rfl; rfl; rfl)
             | ((with_reducible apply go_skip); rfl; rfl)
             | (((with_reducible apply go_guard); rfl) <;> (intro h; simp only [h, Bool.not_true, Bool.not_false]; (try with_reducible (refine ⟨rfl, ?_⟩)); try simp only [decide_eq_true_eq, decide_eq_false_iff_not, Bool.not_eq_true', Bool.not_eq_false', Bool.not_true, Bool.not_false] at h; try exact absurd trivial h)))
           | ((with_reducible (show evG _ _ _ _ _)); first
             | (with_reducible apply go_seq)
             | (with_reducible apply go_region)
             | ((with_reducible apply go_cond_t); rfl; rfl)
             | ((with_reducible apply go_cond_f); rfl; rfl)
             | (((with_reducible apply go_cond); rfl) <;> (intro h; simp only [h]; try simp only [decide_eq_true_eq, decide_eq_false_iff_not, Bool.not_eq_true', Bool.not_eq_false', Bool.not_true, Bool.not_false] at h; try exact absurd trivial h))
             | (with_reducible apply go_ret)
             | (with_reducible apply go_skipc)
             | (with_reducible apply go_block)
             | (with_reducible apply go_exit))
           | (with_reducible apply go_kseq)
           | (with_reducible apply go_kseq_ret)
           | (with_reducible apply go_kblock)
           | (with_reducible apply go_kblock_ret)
           | (with_reducible apply go_kblock_exit)
           | (with_reducible apply go_kseq_exit)
           | ((with_reducible apply end_bool); rfl)
    all_goals try simp only [Int.toNat_natCast] at *
    all_goals first
      | exact nameOK_not (i := i) (by omega) (chOK_no (by omega))
      | exact ⟨by omega, chars_step hC (chOK_yes (by omega)), entails_eq (k := 0) (ns := []) (ks := [16, 15, 0]) [] rfl (by simp) rfl⟩
      | exact nameOK_yes (by omega) (by omega) fun j hj => hC j (by omega)
theorem c83 (s : ByteArray) : Contract Try.prog 83 [.str s] (.ret (.bool (nameOK s))) := by
  refine contract_of mix Try.func83 rfl rfl (by rw [Try.ntmps83]; exact Nat.le_of_ble_eq_true rfl) ?_; rw [Try.results83, Try.ntmps83]; simp only [argsE, Nat.reduceAdd]
  repeat' first
           | (with_reducible apply go_op)
           | (with_reducible apply go_next)
           | ((with_reducible (show evOp _ _ _ _ _ _)); first
             | ((with_reducible (show evOp _ (.move _) _ _ _ _)) ; first | ((with_reducible apply go_mv_int); rfl; rfl) | ((with_reducible apply go_mv_bool); rfl; rfl) | ((with_reducible apply go_mv_str); rfl; rfl))
             | ((with_reducible apply go_as))
             | (((with_reducible apply go_cmp); rfl; rfl; rfl; rfl))
             | (((with_reducible apply go_len_str); rfl; rfl))
             | (((with_reducible apply go_pick); rfl; rfl; rfl)))
           | ((with_reducible (show evOps _ _ _ _ _ _)); first
             | (with_reducible apply go_nil)
             | ((with_reducible apply go_run); rfl; rfl)
             | ((with_reducible apply go_pass); rfl; rfl; rfl)
             | (((with_reducible apply go_guard); rfl) <;> (intro h; simp only [h, Bool.not_true, Bool.not_false]; (try with_reducible (refine ⟨rfl, ?_⟩)); try simp only [decide_eq_true_eq, decide_eq_false_iff_not, Bool.not_eq_true', Bool.not_eq_false', Bool.not_true, Bool.not_false] at h; try exact absurd trivial h)))
           | ((with_reducible (show evG _ _ _ _ _)); first
             | (with_reducible apply go_seq)
             | (with_reducible apply go_region)
             | ((with_reducible apply go_cond_t); rfl; rfl)
             | (((with_reducible apply go_cond); rfl) <;> (intro h; simp only [h]; try simp only [decide_eq_true_eq, decide_eq_false_iff_not, Bool.not_eq_true', Bool.not_eq_false', Bool.not_true, Bool.not_false] at h; try exact absurd trivial h))
             | (with_reducible apply go_ret)
             | (with_reducible apply go_skipc)
             | (with_reducible apply go_block))
           | (with_reducible apply go_kseq)
           | (with_reducible apply go_kseq_ret)
           | ((with_reducible apply end_bool); rfl)
  · exact nameOK_size (by omega)
  rotate_left
  · exact nameOK_size (by omega)
  · refine go_count s.size (fun i => ⟨[(3, .int .i64 i), (0, .str s)], [], 0, 55⟩) (fun i => ∀ j, j < i → chOK j (byteAt s j) = true) (entails_eq (k := 0) (ns := []) (ks := [3, 0]) [] rfl (by simp) rfl) (by omega) ?_
    intro i hi hC
    repeat' first
           | (with_reducible apply go_op)
           | (with_reducible apply go_next)
           | ((with_reducible (show evOp _ _ _ _ _ _)); first
             | ((with_reducible (show evOp _ (.move _) _ _ _ _)) ; first | ((with_reducible apply go_mv_int); rfl; rfl) | ((with_reducible apply go_mv_bool); rfl; rfl) | ((with_reducible apply go_mv_str); rfl; rfl))
             | ((with_reducible apply go_as))
             | ((with_reducible (show evOp _ (.binOp _ _ _ _ _) _ _ _ _)) ; first | ((with_reducible apply go_cmp); rfl; rfl; rfl; rfl) | ((with_reducible apply go_add); rfl; rfl; rfl; omega))
             | (((with_reducible apply go_len_str); rfl; rfl))
             | (((with_reducible apply go_index_str); rfl; rfl; rfl; omega))
             | (((with_reducible apply go_not); rfl; rfl))
             | (((with_reducible apply go_pick); rfl; rfl; rfl)))
           | ((with_reducible (show evOps _ _ _ _ _ _)); first
             | (with_reducible apply go_nil)
             | ((with_reducible apply go_run); rfl; rfl)
             | ((with_reducible apply go_pass); rfl; rfl; rfl)
             | ((with_reducible apply go_skip); rfl; rfl)
             | (((with_reducible apply go_guard); rfl) <;> (intro h; simp only [h, Bool.not_true, Bool.not_false]; (try with_reducible (refine ⟨rfl, ?_⟩)); try simp only [decide_eq_true_eq, decide_eq_false_iff_not, Bool.not_eq_true', Bool.not_eq_false', Bool.not_true, Bool.not_false] at h; try exact absurd trivial h)))
           | ((with_reducible (show evG _ _ _ _ _)); first
             | (with_reducible apply go_seq)
             | (with_reducible apply go_region)
             | ((with_reducible apply go_cond_t); rfl; rfl)
             | ((with_reducible apply go_cond_f); rfl; rfl)
             | (((with_reducible apply go_cond); rfl) <;> (intro h; simp only [h]; try simp only [decide_eq_true_eq, decide_eq_false_iff_not, Bool.not_eq_true', Bool.not_eq_false', Bool.not_true, Bool.not_false] at h; try exact absurd trivial h))
             | (with_reducible apply go_ret)
             | (with_reducible apply go_skipc)
             | (with_reducible apply go_block)
             | (with_reducible apply go_exit))
           | (with_reducible apply go_kseq)
           | (with_reducible apply go_kseq_ret)
           | (with_reducible apply go_kblock)
           | (with_reducible apply go_kblock_ret)
           | (with_reducible apply go_kblock_exit)
           | (with_reducible apply go_kseq_exit)
           | ((with_reducible apply end_bool); rfl)
    all_goals try simp only [Int.toNat_natCast] at *
    all_goals first
      | exact nameOK_not (i := i) (by omega) (chOK_no (by omega))
      | exact ⟨by omega, chars_step hC (chOK_yes (by omega)), entails_eq (k := 0) (ns := []) (ks := [3, 0]) [] rfl (by simp) rfl⟩
      | exact nameOK_yes (by omega) (by omega) fun j hj => hC j (by omega)
end Go.Pv.Soil

open Go Go.Proofs Go.Pv
set_option maxHeartbeats 1000000
set_option maxRecDepth 100000
set_option linter.unusedSimpArgs false
set_option linter.unusedVariables false
namespace Go.Pv.Soil
structure Soil where
  name : ByteArray
  a : Int
  b : Int
  r : Int
  h : Int

def encSoil (x : Soil) : List D := [.str x.name, .int .i64 x.a, .int .i64 x.b, .int .i64 x.r, .int .i64 x.h]

def idxOf {α : Type} (p : α → Bool) (l : List α) : Int := match l.findIdx? p with
  | some i => i
  | none => -1

theorem idxOf_none {α : Type} {p : α → Bool} {l : List α} (h : ∀ x ∈ l, p x = false) : idxOf p l = -1 := by
  have : l.findIdx? p = none := by simpa using h
  rw [idxOf, this]
theorem idxOf_some {α : Type} {p : α → Bool} {l : List α} {i : Nat} (hi : i < l.length) (h : p l[i] = true) (hb : ∀ j (hj : j < i), p (l[j]'(by omega)) = false) : idxOf p l = i := by
  have : l.findIdx? p = some i := by
    rw [List.findIdx?_eq_some_iff_getElem]
    exact ⟨hi, h, fun j hj => by simpa using hb j hj⟩
  rw [idxOf, this]

theorem c150 (l : List Soil) (hl : l.length < 1000000000000) (g : FuncId) (ys : List D) (hst : Stab ys) (hpu : pureL ys = true) (p : Soil → Bool) (hf : ∀ x ∈ l, Contract Try.prog g (.agg (encSoil x) :: ys) (.ret (.bool (p x)))) :
    Contract Try.prog 150 [.sl (l.map encSoil), .clo (.func g) [] ys] (.ret (.int .i64 (idxOf p l))) := by
  refine contract_of mix Try.func150 rfl rfl (by rw [Try.ntmps150]; exact Nat.le_of_ble_eq_true rfl) ?_; rw [Try.results150, Try.ntmps150]; simp only [argsE, Nat.reduceAdd]
  repeat' first
           | (with_reducible apply go_op)
           | (with_reducible apply go_next)
           | ((with_reducible (show evOp _ _ _ _ _ _)); first
             | ((with_reducible (show evOp _ (.move _) _ _ _ _)) ; first | ((with_reducible apply go_mv_int); rfl; rfl) | ((with_reducible apply go_mv_sl); rfl; rfl))
             | ((with_reducible apply go_as))
             | (((with_reducible apply go_len); rfl; rfl)))
           | ((with_reducible (show evOps _ _ _ _ _ _)); first
             | (with_reducible apply go_nil))
           | ((with_reducible (show evG _ _ _ _ _)); first
             | (with_reducible apply go_seq)
             | (with_reducible apply go_region)
             | (with_reducible apply go_block))
           | (with_reducible apply go_kseq)
  have e8 : ∀ i : Nat, (⟨[(8, .int .i64 i), (7, .int .i64 l.length), (0, .sl (l.map encSoil)), (1, .clo (.func g) [] (renL [] ys))], [], 0, 19⟩ : St) = ⟨[(8, .int .i64 i), (7, .int .i64 l.length), (0, .sl (l.map encSoil)), (1, .clo (.func g) [] ys)], [], 0, 19⟩ := fun i => by rw [renL_pure hpu]
  refine go_count l.length (fun i => ⟨[(8, .int .i64 i), (7, .int .i64 l.length), (0, .sl (l.map encSoil)), (1, .clo (.func g) [] ys)], [], 0, 19⟩) (fun i => ∀ j (hj : j < i) (hj' : j < l.length), p l[j] = false) (entails_eq (k := 0) (ns := []) (ks := [8, 7, 0, 1]) [] rfl (by simp) (e8 _)) (by omega) ?_
  intro i hi hC
  repeat' first
           | (with_reducible apply go_op)
           | (with_reducible apply go_next)
           | ((with_reducible (show evOp _ _ _ _ _ _)); first
             | ((with_reducible (show evOp _ (.move _) _ _ _ _)) ; first | ((with_reducible apply go_mv_int); rfl; rfl) | ((with_reducible apply go_mv_sl); rfl; rfl) | ((with_reducible apply go_mv_clo); rfl; rfl))
             | ((with_reducible apply go_as))
             | (((with_reducible apply go_load); rfl; rfl; rfl))
             | (((with_reducible apply go_index); rfl; rfl; (intro; rfl); rfl; omega; intro hlt))
             | (((with_reducible apply go_cmp); rfl; rfl; rfl; rfl)))
           | ((with_reducible (show evOps _ _ _ _ _ _)); first
             | (with_reducible apply go_nil))
           | ((with_reducible (show evG _ _ _ _ _)); first
             | (with_reducible apply go_seq)
             | (with_reducible apply go_region)
             | (((with_reducible apply go_cond); rfl) <;> (intro h; simp only [h]; try simp only [decide_eq_true_eq, decide_eq_false_iff_not, Bool.not_eq_true', Bool.not_eq_false', Bool.not_true, Bool.not_false] at h; try exact absurd trivial h))
             | (with_reducible apply go_ret)
             | (with_reducible apply go_skipc)
             | (with_reducible apply go_block)
             | (with_reducible apply go_exit))
           | (with_reducible apply go_kseq)
           | (with_reducible apply go_kblock_exit)
           | (with_reducible apply go_kseq_exit)
           | ((with_reducible apply end_int); rfl)
  · refine go_clo_bool rfl rfl hst (hf l[i] (List.getElem_mem _)) rfl ?_
    repeat' first
           | (with_reducible apply go_op)
           | (with_reducible apply go_next)
           | ((with_reducible (show evOp _ _ _ _ _ _)); first
             | (((with_reducible apply go_mv_int); rfl; rfl))
             | ((with_reducible apply go_as))
             | (((with_reducible apply go_add); rfl; rfl; rfl; omega)))
           | ((with_reducible (show evOps _ _ _ _ _ _)); first
             | (with_reducible apply go_nil))
           | ((with_reducible (show evG _ _ _ _ _)); first
             | (with_reducible apply go_seq)
             | (with_reducible apply go_region)
             | (((with_reducible apply go_cond); rfl) <;> (intro h; simp only [h]; try simp only [decide_eq_true_eq, decide_eq_false_iff_not, Bool.not_eq_true', Bool.not_eq_false', Bool.not_true, Bool.not_false] at h; try exact absurd trivial h))
             | (with_reducible apply go_ret)
             | (with_reducible apply go_skipc))
           | (with_reducible apply go_kseq)
           | (with_reducible apply go_kseq_ret)
           | (with_reducible apply go_kblock)
           | (with_reducible apply go_kblock_ret)
           | ((with_reducible apply end_int); rfl)
    · have h2 : i < l.length := by omega
      exact (idxOf_some h2 h fun j hj => hC j hj (by omega)).symm
    · have h2 : i < l.length := by omega
      refine ⟨by omega, fun j hj hj' => ?_, entails_eq (k := 0) (ns := []) (ks := [8, 7, 0, 1]) [] rfl (by simp) (e8 _)⟩
      rcases Nat.lt_succ_iff_lt_or_eq.1 hj with h' | rfl
      · exact hC j h' hj'
      · exact h
  · refine (idxOf_none fun x hx => ?_).symm
    obtain ⟨j, hj, rfl⟩ := List.mem_iff_getElem.1 hx
    exact hC j (by omega) hj

theorem idxOf_ge {α : Type} {p : α → Bool} {l : List α} : decide (0 ≤ idxOf p l) = l.any p := by
  unfold idxOf
  cases h : l.findIdx? p with
  | none =>
    have : l.any p = false := by
      rw [List.findIdx?_eq_none_iff] at h
      rw [List.any_eq_false]
      intro x hx
      simp [h x hx]
    rw [this]; rfl
  | some i =>
    have : l.any p = true := by
      rw [List.findIdx?_eq_some_iff_getElem] at h
      obtain ⟨hi, hp, _⟩ := h
      rw [List.any_eq_true]
      exact ⟨_, List.getElem_mem hi, hp⟩
    rw [this]
    simp

theorem c138 (l : List Soil) (hl : l.length < 1000000000000) (g : FuncId) (ys : List D) (hst : Stab ys) (hpu : pureL ys = true) (p : Soil → Bool) (hf : ∀ x ∈ l, Contract Try.prog g (.agg (encSoil x) :: ys) (.ret (.bool (p x)))) :
    Contract Try.prog 138 [.sl (l.map encSoil), .clo (.func g) [] ys] (.ret (.bool (l.any p))) := by
  refine contract_of mix Try.func138 rfl rfl (by rw [Try.ntmps138]; exact Nat.le_of_ble_eq_true rfl) ?_; rw [Try.results138, Try.ntmps138]; simp only [argsE, Nat.reduceAdd]
  repeat' first
           | (with_reducible apply go_op)
           | (with_reducible apply go_next)
           | ((with_reducible (show evOp _ _ _ _ _ _)); first
             | ((with_reducible (show evOp _ (.move _) _ _ _ _)) ; first | ((with_reducible apply go_mv_bool); rfl; rfl) | ((with_reducible apply go_mv_sl); rfl; rfl) | ((with_reducible apply go_mv_clo); rfl; rfl))
             | ((with_reducible apply go_as)))
           | ((with_reducible (show evOps _ _ _ _ _ _)); first
             | (with_reducible apply go_nil))
           | ((with_reducible (show evG _ _ _ _ _)); first
             | (with_reducible apply go_seq)
             | (with_reducible apply go_region))
           | (with_reducible apply go_kseq)
  refine go_fn_int (args' := [.sl (l.map encSoil), .clo (.func g) [] ys]) ?_ (c150 l hl g ys hst hpu p hf) rfl ?_
  · have e := hst (lkH []) 45
    simp only [List.map_cons, List.map_nil, evalD, lkE, purL, pur, Option.bind_some, Option.map_some, Nat.reduceEqDiff, if_true, if_false, e]
  repeat' first
           | (with_reducible apply go_op)
           | (with_reducible apply go_next)
           | ((with_reducible (show evOp _ _ _ _ _ _)); first
             | (((with_reducible apply go_mv_bool); rfl; rfl))
             | ((with_reducible apply go_as))
             | (((with_reducible apply go_cmp); rfl; rfl; rfl; rfl)))
           | ((with_reducible (show evOps _ _ _ _ _ _)); first
             | (with_reducible apply go_nil))
           | ((with_reducible (show evG _ _ _ _ _)); first
             | (with_reducible apply go_ret))
           | (with_reducible apply go_kseq)
           | ((with_reducible apply end_bool); rfl)
  exact idxOf_ge

theorem c81 (x : Soil) : Contract Try.prog 81 [.agg (encSoil x)] (.ret (.str x.name)) := by
  refine contract_of mix Try.func81 rfl rfl (by rw [Try.ntmps81]; exact Nat.le_of_ble_eq_true rfl) ?_; rw [Try.results81, Try.ntmps81]; simp only [argsE, Nat.reduceAdd]
  repeat' first
           | (with_reducible apply go_op)
           | (with_reducible apply go_next)
           | ((with_reducible (show evOp _ _ _ _ _ _)); first
             | (((with_reducible apply go_mv_str); rfl; rfl))
             | ((with_reducible apply go_as))
             | (((with_reducible apply go_load_own); rfl; rfl; rfl; rfl))
             | (((with_reducible apply go_fieldAddr_own); rfl; rfl; rfl))
             | (((with_reducible apply go_bx_agg); rfl; rfl; (exact Nat.le_of_ble_eq_true rfl); rfl; rfl)))
           | ((with_reducible (show evOps _ _ _ _ _ _)); first
             | (with_reducible apply go_nil))
           | ((with_reducible (show evG _ _ _ _ _)); first
             | (with_reducible apply go_seq)
             | (with_reducible apply go_region)
             | (with_reducible apply go_ret))
           | (with_reducible apply go_kseq)
           | ((with_reducible apply end_str); rfl)
           | (with_reducible rfl)

theorem c139 (x : Soil) (s nm : ByteArray) (g : FuncId) (hn : Contract Try.prog g [.agg (encSoil x)] (.ret (.str nm))) : Contract Try.prog 139 [.agg (encSoil x), .ptr [.clo (.func g) [] []], .ptr [.str s]] (.ret (.bool (decide (nm = s)))) := by
  refine contract_of mix Try.func139 rfl rfl (by rw [Try.ntmps139]; exact Nat.le_of_ble_eq_true rfl) ?_; rw [Try.results139, Try.ntmps139]; simp only [argsE, Nat.reduceAdd]
  repeat' first
           | (with_reducible apply go_op)
           | (with_reducible apply go_next)
           | ((with_reducible (show evOp _ _ _ _ _ _)); first
             | (((with_reducible apply go_mv_bool); rfl; rfl))
             | ((with_reducible apply go_as))
             | ((with_reducible (show evOp _ (.load _ _) _ _ _ _)) ; first | ((with_reducible apply go_load); rfl; rfl; rfl) | ((with_reducible apply go_load_own); rfl; rfl; rfl; rfl))
             | (((with_reducible apply go_bx_agg); rfl; rfl; (exact Nat.le_of_ble_eq_true rfl); rfl; rfl)))
           | ((with_reducible (show evOps _ _ _ _ _ _)); first
             | (with_reducible apply go_nil)
             | ((with_reducible apply go_pre); rfl))
           | ((with_reducible (show evG _ _ _ _ _)); first
             | (with_reducible apply go_seq)
             | (with_reducible apply go_region)
             | ((with_reducible apply go_order); kernel_rfl; rfl))
           | (with_reducible apply go_kseq)
  refine go_clo_str (d1 := .agg (encSoil x)) rfl rfl (fun _ _ => rfl) hn rfl ?_
  repeat' first
           | (with_reducible apply go_op)
           | (with_reducible apply go_next)
           | ((with_reducible (show evOp _ _ _ _ _ _)); first
             | (((with_reducible apply go_mv_bool); rfl; rfl))
             | ((with_reducible apply go_as))
             | (((with_reducible apply go_load); rfl; rfl; rfl))
             | (((with_reducible apply go_bin); rfl; rfl)))
           | ((with_reducible (show evOps _ _ _ _ _ _)); first
             | (with_reducible apply go_nil)
             | ((with_reducible apply go_pre); rfl)
             | (with_reducible apply go_pre_nil)
             | ((with_reducible apply go_suf); rfl)
             | (with_reducible apply go_suf_nil))
           | ((with_reducible (show evG _ _ _ _ _)); first
             | (with_reducible apply go_ret))
           | (with_reducible apply go_kseq)
           | (with_reducible apply go_ksuf)
           | ((with_reducible apply end_bool); rfl)
           | (with_reducible rfl)

/-- The first of n numbers that is not 0. -/
def firstE : Nat → (Nat → Int) → Int
  | 0, _ => 0
  | n + 1, f => if f 0 = 0 then firstE n (fun i => f (i + 1)) else f 0

theorem firstE_at : ∀ {n : Nat} {f : Nat → Int} {i : Nat}, i < n → (∀ j, j < i → f j = 0) → f i ≠ 0 → firstE n f = f i
  | n + 1, f, 0, _, _, h => by simp [firstE, h]
  | n + 1, f, i + 1, hi, hb, h => by
    simp only [firstE, hb 0 (by omega), if_true]
    exact firstE_at (f := fun i => f (i + 1)) (by omega) (fun j hj => hb (j + 1) (by omega)) h

theorem firstE_zero : ∀ {n : Nat} {f : Nat → Int}, (∀ j, j < n → f j = 0) → firstE n f = 0
  | 0, _, _ => rfl
  | n + 1, f, h => by
    simp only [firstE, h 0 (by omega), if_true]
    exact firstE_zero fun j hj => h (j + 1) (by omega)

def stepE {α : Type} (nm : α → ByteArray) (er : α → Int) (l : List α) (i : Nat) : Int :=
  match l[i]? with
  | none => 0
  | some x => if nameOK (nm x) = false then 4 else if ((l.take i).any fun y => decide (nm y = nm x)) = true then 5 else er x

def eachE {α : Type} (nm : α → ByteArray) (er : α → Int) (l : List α) : Int := firstE l.length (stepE nm er l)

theorem each_at {α : Type} {nm : α → ByteArray} {er : α → Int} {l : List α} {i : Nat} {e : Int} (hi : i < l.length) (hC : ∀ j, j < i → stepE nm er l j = 0) (h : stepE nm er l i = e) (he : e ≠ 0) : e = eachE nm er l := by
  subst h
  exact (firstE_at hi hC he).symm

theorem c80 (l : List Soil) (hl : l.length < 1000000000000) (g g' : FuncId) (nm : Soil → ByteArray) (er : Soil → Int) (hn : ∀ x, Contract Try.prog g [.agg (encSoil x)] (.ret (.str (nm x)))) (he : ∀ x, Contract Try.prog g' [.agg (encSoil x)] (.ret (.int .i64 (er x)))) :
    Contract Try.prog 80 [.sl (l.map encSoil), .clo (.func g) [] [], .clo (.func g') [] []] (.ret (.int .i64 (eachE nm er l))) := by
  refine contract_of mix Try.func80 rfl rfl (by rw [Try.ntmps80]; exact Nat.le_of_ble_eq_true rfl) ?_; rw [Try.results80, Try.ntmps80]; simp only [argsE, Nat.reduceAdd]
  repeat' first
           | (with_reducible apply go_op)
           | (with_reducible apply go_next)
           | ((with_reducible (show evOp _ _ _ _ _ _)); first
             | ((with_reducible (show evOp _ (.move _) _ _ _ _)) ; first | ((with_reducible apply go_mv_int); rfl; rfl) | ((with_reducible apply go_mv_sl); rfl; rfl))
             | ((with_reducible apply go_as))
             | (((with_reducible apply go_len); rfl; rfl))
             | (((with_reducible apply go_bx_clo); rfl; rfl)))
           | ((with_reducible (show evOps _ _ _ _ _ _)); first
             | (with_reducible apply go_nil))
           | ((with_reducible (show evG _ _ _ _ _)); first
             | (with_reducible apply go_seq)
             | (with_reducible apply go_region)
             | (with_reducible apply go_block))
           | (with_reducible apply go_kseq)
  refine go_count l.length (fun i => ⟨[(13, .int .i64 i), (12, .int .i64 l.length), (11, .sl (l.map encSoil)), (0, .sl (l.map encSoil)), (2, .clo (.func g') [] []), (4, .op 0 0 0)], [(0, ⟨1, false, [[.clo (.func g) [] []]]⟩)], 32, 36⟩) (fun i => ∀ j, j < i → stepE nm er l j = 0) (entails_eq (k := 0) (ns := []) (ks := [13, 12, 11, 0, 2, 4]) [(0, 0)] rfl (by simp) rfl) (by omega) ?_
  intro i hi hC
  repeat' first
           | (with_reducible apply go_op)
           | (with_reducible apply go_next)
           | ((with_reducible (show evOp _ _ _ _ _ _)); first
             | (((with_reducible apply go_mv_int); rfl; rfl))
             | ((with_reducible apply go_as))
             | ((with_reducible (show evOp _ (.load _ _) _ _ _ _)) ; first | ((with_reducible apply go_load); rfl; rfl; rfl) | ((with_reducible apply go_load_own); rfl; rfl; rfl; rfl))
             | (((with_reducible apply go_index); rfl; rfl; (intro; rfl); rfl; omega; intro hlt))
             | (((with_reducible apply go_cmp); rfl; rfl; rfl; rfl))
             | (((with_reducible apply go_st_agg); rfl; rfl; rfl; rfl; rfl; rfl; rfl))
             | (((with_reducible apply go_alloc); rfl; rfl; rfl)))
           | ((with_reducible (show evOps _ _ _ _ _ _)); first
             | (with_reducible apply go_nil))
           | ((with_reducible (show evG _ _ _ _ _)); first
             | (with_reducible apply go_seq)
             | (with_reducible apply go_region)
             | (((with_reducible apply go_cond); rfl) <;> (intro h; simp only [h]; try simp only [decide_eq_true_eq, decide_eq_false_iff_not, Bool.not_eq_true', Bool.not_eq_false', Bool.not_true, Bool.not_false] at h; try exact absurd trivial h))
             | (with_reducible apply go_ret)
             | (with_reducible apply go_skipc)
             | (with_reducible apply go_block)
             | (with_reducible apply go_exit))
           | (with_reducible apply go_kseq)
           | (with_reducible apply go_kblock_exit)
           | (with_reducible apply go_kseq_exit)
           | ((with_reducible apply end_int); rfl)
  refine go_clo_str (d1 := .agg (encSoil l[i])) rfl rfl (fun _ _ => rfl) (hn _) rfl ?_
  repeat' first
           | (with_reducible apply go_op)
           | (with_reducible apply go_next)
           | ((with_reducible (show evOp _ _ _ _ _ _)); first
             | (((with_reducible apply go_load_own); rfl; rfl; rfl; rfl))
             | (((with_reducible apply go_st_str); rfl; rfl; rfl))
             | (((with_reducible apply go_alloc); rfl; rfl; rfl)))
           | ((with_reducible (show evOps _ _ _ _ _ _)); first
             | (with_reducible apply go_nil))
           | ((with_reducible (show evG _ _ _ _ _)); first
             | (with_reducible apply go_seq)
             | (with_reducible apply go_region))
           | (with_reducible apply go_kseq)
  refine go_fn_bool (args' := [.str (nm l[i])]) rfl (c137 _) rfl ?_
  repeat' first
           | (with_reducible apply go_op)
           | (with_reducible apply go_next)
           | ((with_reducible (show evOp _ _ _ _ _ _)); first
             | ((with_reducible (show evOp _ (.move _) _ _ _ _)) ; first | ((with_reducible apply go_mv_int); rfl; rfl) | ((with_reducible apply go_mv_sl); rfl; rfl))
             | ((with_reducible apply go_as))
             | (((with_reducible apply go_take_sl); rfl; rfl; (intro; rfl); rfl; omega))
             | (((with_reducible apply go_not); rfl; rfl))
             | (((with_reducible apply go_fn2); rfl; rfl; rfl)))
           | ((with_reducible (show evOps _ _ _ _ _ _)); first
             | (with_reducible apply go_nil))
           | ((with_reducible (show evG _ _ _ _ _)); first
             | (with_reducible apply go_seq)
             | (with_reducible apply go_region)
             | (((with_reducible apply go_cond); rfl) <;> (intro h; simp only [h]; try simp only [decide_eq_true_eq, decide_eq_false_iff_not, Bool.not_eq_true', Bool.not_eq_false', Bool.not_true, Bool.not_false] at h; try exact absurd trivial h))
             | (with_reducible apply go_ret)
             | (with_reducible apply go_skipc))
           | (with_reducible apply go_kseq)
           | (with_reducible apply go_kseq_ret)
           | (with_reducible apply go_kblock_ret)
           | ((with_reducible apply end_int); rfl)
  · have h2 : i < l.length := by omega
    exact each_at h2 hC (by simp [stepE, h2, h]) (by decide)
  refine go_fn_bool (args' := [.sl ((l.take i).map encSoil), .clo (.func 139) [] [.ptr [.clo (.func g) [] []], .ptr [.str (nm l[i])]]]) rfl (c138 (l.take i) (by simp; omega) 139 _ (fun _ _ => rfl) rfl (fun y => decide (nm y = nm l[i])) fun y _ => c139 y _ _ g (hn y)) rfl ?_
  repeat' first
           | (with_reducible apply go_op)
           | (with_reducible apply go_next)
           | ((with_reducible (show evOp _ _ _ _ _ _)); first
             | ((with_reducible (show evOp _ (.move _) _ _ _ _)) ; first | ((with_reducible apply go_mv_int); rfl; rfl) | ((with_reducible apply go_mv_clo); rfl; rfl))
             | ((with_reducible apply go_as))
             | (((with_reducible apply go_load_own); rfl; rfl; rfl; rfl)))
           | ((with_reducible (show evOps _ _ _ _ _ _)); first
             | (with_reducible apply go_nil))
           | ((with_reducible (show evG _ _ _ _ _)); first
             | (with_reducible apply go_seq)
             | (with_reducible apply go_region)
             | (((with_reducible apply go_cond); rfl) <;> (intro h; simp only [h]; try simp only [decide_eq_true_eq, decide_eq_false_iff_not, Bool.not_eq_true', Bool.not_eq_false', Bool.not_true, Bool.not_false] at h; try exact absurd trivial h))
             | (with_reducible apply go_ret)
             | (with_reducible apply go_skipc))
           | (with_reducible apply go_kseq)
           | (with_reducible apply go_kseq_ret)
           | (with_reducible apply go_kblock_ret)
           | ((with_reducible apply end_int); rfl)
  · rename_i h1 _
    have h2 : i < l.length := by omega
    exact each_at h2 hC (by simp only [stepE, List.getElem?_eq_getElem h2, h, *]; simp) (by decide)
  refine go_clo_int (d1 := .agg (encSoil l[i])) rfl rfl (fun _ _ => rfl) (he _) rfl ?_
  repeat' first
           | (with_reducible apply go_op)
           | (with_reducible apply go_next)
           | ((with_reducible (show evOp _ _ _ _ _ _)); first
             | (((with_reducible apply go_mv_int); rfl; rfl))
             | ((with_reducible apply go_as))
             | ((with_reducible (show evOp _ (.binOp _ _ _ _ _) _ _ _ _)) ; first | ((with_reducible apply go_cmp); rfl; rfl; rfl; rfl) | ((with_reducible apply go_add); rfl; rfl; rfl; omega)))
           | ((with_reducible (show evOps _ _ _ _ _ _)); first
             | (with_reducible apply go_nil))
           | ((with_reducible (show evG _ _ _ _ _)); first
             | (with_reducible apply go_seq)
             | (with_reducible apply go_region)
             | (((with_reducible apply go_cond); rfl) <;> (intro h; simp only [h]; try simp only [decide_eq_true_eq, decide_eq_false_iff_not, Bool.not_eq_true', Bool.not_eq_false', Bool.not_true, Bool.not_false] at h; try exact absurd trivial h))
             | (with_reducible apply go_ret)
             | (with_reducible apply go_skipc))
           | (with_reducible apply go_kseq)
           | (with_reducible apply go_kseq_ret)
           | (with_reducible apply go_kblock)
           | (with_reducible apply go_kblock_ret)
           | ((with_reducible apply end_int); rfl)
  · have h2 : i < l.length := by omega
    exact each_at h2 hC (by simp only [stepE, List.getElem?_eq_getElem h2, *]; simp) h
  · have h2 : i < l.length := by omega
    refine ⟨h2, fun j hj => ?_, entails_eq (k := 0) (ns := []) (ks := [13, 12, 11, 0, 2, 4]) [(0, 0)] rfl (by simp) rfl⟩
    rcases Nat.lt_succ_iff_lt_or_eq.1 hj with h' | rfl
    · exact hC j h'
    · simp only [stepE, List.getElem?_eq_getElem h2, *]; simp
  · refine (firstE_zero fun j hj => hC j (by omega)).symm
end Go.Pv.Soil

open Go Go.Proofs Go.Pv
set_option maxHeartbeats 1000000
set_option maxRecDepth 100000
set_option linter.unusedSimpArgs false
set_option linter.unusedVariables false
namespace Go.Pv.Soil

def soilE (x : Soil) : Int := if (1 ≤ x.a ∧ x.a ≤ 1000) ∧ (1 ≤ x.b ∧ x.b ≤ 5000) ∧ (1 ≤ x.r ∧ x.r ≤ 1000) ∧ (1 ≤ x.h ∧ x.h ≤ 1000) ∧ x.h ≤ x.r then 0 else 2

theorem c82 (x : Soil) : Contract Try.prog 82 [.agg (encSoil x)] (.ret (.int .i64 (soilE x))) := by
  refine contract_of mix Try.func82 rfl rfl (by rw [Try.ntmps82]; exact Nat.le_of_ble_eq_true rfl) ?_; rw [Try.results82, Try.ntmps82]; simp only [argsE, Nat.reduceAdd]
  repeat' first
           | (with_reducible apply go_op)
           | (with_reducible apply go_next)
           | ((with_reducible (show evOp _ _ _ _ _ _)); first
             | ((with_reducible (show evOp _ (.move _) _ _ _ _)) ; first | ((with_reducible apply go_mv_int); rfl; rfl) | ((with_reducible apply go_mv_bool); rfl; rfl))
             | ((with_reducible apply go_as))
             | (((with_reducible apply go_load_own); rfl; rfl; rfl; rfl))
             | (((with_reducible apply go_fieldAddr_own); rfl; rfl; rfl))
             | (((with_reducible apply go_cmp); rfl; rfl; rfl; rfl))
             | (((with_reducible apply go_fn_bool); rfl; (exact c108 _ _ _); rfl))
             | (((with_reducible apply go_not); rfl; rfl))
             | (((with_reducible apply go_pick); rfl; rfl; rfl))
             | (((with_reducible apply go_bx_agg); rfl; rfl; (exact Nat.le_of_ble_eq_true rfl); rfl; rfl)))
           | ((with_reducible (show evOps _ _ _ _ _ _)); first
             | (with_reducible apply go_nil)
             | ((with_reducible apply go_run); rfl; rfl)
             | ((with_reducible apply go_pass); rfl; rfl; rfl)
             | (((with_reducible apply go_guard); rfl) <;> (intro h; simp only [h, Bool.not_true, Bool.not_false]; (try with_reducible (refine ⟨rfl, ?_⟩)); try simp only [decide_eq_true_eq, decide_eq_false_iff_not, Bool.not_eq_true', Bool.not_eq_false', Bool.not_true, Bool.not_false] at h; try exact absurd trivial h)))
           | ((with_reducible (show evG _ _ _ _ _)); first
             | (with_reducible apply go_seq)
             | (with_reducible apply go_region)
             | ((with_reducible apply go_cond_t); rfl; rfl)
             | (((with_reducible apply go_cond); rfl) <;> (intro h; simp only [h]; try simp only [decide_eq_true_eq, decide_eq_false_iff_not, Bool.not_eq_true', Bool.not_eq_false', Bool.not_true, Bool.not_false] at h; try exact absurd trivial h))
             | (with_reducible apply go_ret)
             | (with_reducible apply go_skipc))
           | (with_reducible apply go_kseq)
           | (with_reducible apply go_kseq_ret)
           | ((with_reducible apply end_int); rfl)
  all_goals first
    | (simp only [soilE]; rw [if_pos (by omega)])
    | (simp only [soilE]; rw [if_neg (by omega)])
theorem c85 (x : Soil) : Contract Try.prog 85 [.agg (encSoil x)] (.ret (.int .i64 (soilE x))) := by
  refine contract_of mix Try.func85 rfl rfl (by rw [Try.ntmps85]; exact Nat.le_of_ble_eq_true rfl) ?_; rw [Try.results85, Try.ntmps85]; simp only [argsE, Nat.reduceAdd]
  repeat' first
           | (with_reducible apply go_op)
           | (with_reducible apply go_next)
           | ((with_reducible (show evOp _ _ _ _ _ _)); first
             | ((with_reducible (show evOp _ (.move _) _ _ _ _)) ; first | ((with_reducible apply go_mv_int); rfl; rfl) | ((with_reducible apply go_mv_bool); rfl; rfl))
             | ((with_reducible apply go_as))
             | (((with_reducible apply go_load_own); rfl; rfl; rfl; rfl))
             | (((with_reducible apply go_fieldAddr_own); rfl; rfl; rfl))
             | (((with_reducible apply go_cmp); rfl; rfl; rfl; rfl))
             | (((with_reducible apply go_fn_bool); rfl; (exact c38 _ _ _); rfl))
             | (((with_reducible apply go_not); rfl; rfl))
             | (((with_reducible apply go_pick); rfl; rfl; rfl))
             | (((with_reducible apply go_bx_agg); rfl; rfl; (exact Nat.le_of_ble_eq_true rfl); rfl; rfl)))
           | ((with_reducible (show evOps _ _ _ _ _ _)); first
             | (with_reducible apply go_nil)
             | ((with_reducible apply go_run); rfl; rfl)
             | ((with_reducible apply go_pass); rfl; rfl; rfl)
             | (((with_reducible apply go_guard); rfl) <;> (intro h; simp only [h, Bool.not_true, Bool.not_false]; (try with_reducible (refine ⟨rfl, ?_⟩)); try simp only [decide_eq_true_eq, decide_eq_false_iff_not, Bool.not_eq_true', Bool.not_eq_false', Bool.not_true, Bool.not_false] at h; try exact absurd trivial h)))
           | ((with_reducible (show evG _ _ _ _ _)); first
             | (with_reducible apply go_seq)
             | (with_reducible apply go_region)
             | ((with_reducible apply go_cond_t); rfl; rfl)
             | (((with_reducible apply go_cond); rfl) <;> (intro h; simp only [h]; try simp only [decide_eq_true_eq, decide_eq_false_iff_not, Bool.not_eq_true', Bool.not_eq_false', Bool.not_true, Bool.not_false] at h; try exact absurd trivial h))
             | (with_reducible apply go_ret)
             | (with_reducible apply go_skipc))
           | (with_reducible apply go_kseq)
           | (with_reducible apply go_kseq_ret)
           | ((with_reducible apply end_int); rfl)
  all_goals first
    | (simp only [soilE]; rw [if_pos (by omega)])
    | (simp only [soilE]; rw [if_neg (by omega)])
end Go.Pv.Soil

open Go Go.Proofs Go.Pv
set_option maxHeartbeats 1000000
set_option maxRecDepth 100000
set_option linter.unusedSimpArgs false
set_option linter.unusedVariables false
namespace Go.Pv.Soil

def soilsE (l : List Soil) : Int := if l.length = 0 then 10 else if 8 < l.length then 8 else eachE (·.name) soilE l

theorem c20 (l : List Soil) (hl : l.length < 1000000000000) : Contract Try.prog 20 [.sl (l.map encSoil)] (.ret (.int .i64 (soilsE l))) := by
  refine contract_of mix Try.func20 rfl rfl (by rw [Try.ntmps20]; exact Nat.le_of_ble_eq_true rfl) ?_; rw [Try.results20, Try.ntmps20]; simp only [argsE, Nat.reduceAdd]
  repeat' first
           | (with_reducible apply go_op)
           | (with_reducible apply go_next)
           | ((with_reducible (show evOp _ _ _ _ _ _)); first
             | ((with_reducible (show evOp _ (.move _) _ _ _ _)) ; first | ((with_reducible apply go_mv_int); rfl; rfl) | ((with_reducible apply go_mv_sl); rfl; rfl))
             | ((with_reducible apply go_as))
             | (((with_reducible apply go_cmp); rfl; rfl; rfl; rfl))
             | (((with_reducible apply go_len); rfl; rfl)))
           | ((with_reducible (show evOps _ _ _ _ _ _)); first
             | (with_reducible apply go_nil))
           | ((with_reducible (show evG _ _ _ _ _)); first
             | (with_reducible apply go_seq)
             | (with_reducible apply go_region)
             | (((with_reducible apply go_cond); rfl) <;> (intro h; simp only [h]; try simp only [decide_eq_true_eq, decide_eq_false_iff_not, Bool.not_eq_true', Bool.not_eq_false', Bool.not_true, Bool.not_false] at h; try exact absurd trivial h))
             | (with_reducible apply go_ret)
             | (with_reducible apply go_skipc))
           | (with_reducible apply go_kseq)
           | (with_reducible apply go_kseq_ret)
           | ((with_reducible apply end_int); rfl)
  · simp only [soilsE]; rw [if_pos (by omega)]
  · simp only [soilsE]; rw [if_neg (by omega), if_pos (by omega)]
  · refine go_fn_int (args' := [.sl (l.map encSoil), .clo (.func 81) [] [], .clo (.func 82) [] []]) rfl (c80 l hl 81 82 (·.name) soilE c81 c82) rfl ?_
    repeat' first
           | (with_reducible apply go_op)
           | (with_reducible apply go_next)
           | ((with_reducible (show evOp _ _ _ _ _ _)); first
             | (((with_reducible apply go_mv_int); rfl; rfl))
             | ((with_reducible apply go_as)))
           | ((with_reducible (show evOps _ _ _ _ _ _)); first
             | (with_reducible apply go_nil))
           | ((with_reducible (show evG _ _ _ _ _)); first
             | (with_reducible apply go_ret))
           | (with_reducible apply go_kseq)
           | ((with_reducible apply end_int); rfl)
    simp only [soilsE]; rw [if_neg (by omega), if_neg (by omega)]

def ofName (l : List Soil) (s : ByteArray) : Int := idxOf (fun x => decide (x.name = s)) l

theorem c84 (l : List Soil) (hl : l.length < 1000000000000) (s : ByteArray) : Contract Try.prog 84 [.sl (l.map encSoil), .str s] (.ret (.int .i64 (ofName l s))) := by
  refine contract_of mix Try.func84 rfl rfl (by rw [Try.ntmps84]; exact Nat.le_of_ble_eq_true rfl) ?_; rw [Try.results84, Try.ntmps84]; simp only [argsE, Nat.reduceAdd]
  repeat' first
           | (with_reducible apply go_op)
           | (with_reducible apply go_next)
           | ((with_reducible (show evOp _ _ _ _ _ _)); first
             | (((with_reducible apply go_mv_int); rfl; rfl))
             | ((with_reducible apply go_as)))
           | ((with_reducible (show evOps _ _ _ _ _ _)); first
             | (with_reducible apply go_nil))
           | ((with_reducible (show evG _ _ _ _ _)); first
             | (with_reducible apply go_seq)
             | (with_reducible apply go_region)
             | (with_reducible apply go_block))
           | (with_reducible apply go_kseq)
  refine go_count l.length (fun i => ⟨[(5, .int .i64 i), (0, .sl (l.map encSoil)), (1, .str s)], [], 0, 20⟩) (fun i => ∀ j (hj : j < i) (hj' : j < l.length), decide (l[j].name = s) = false) (entails_eq (k := 0) (ns := []) (ks := [5, 0, 1]) [] rfl (by simp) rfl) (by omega) ?_
  intro i hi hC
  repeat' first
           | (with_reducible apply go_op)
           | (with_reducible apply go_next)
           | ((with_reducible (show evOp _ _ _ _ _ _)); first
             | ((with_reducible (show evOp _ (.move _) _ _ _ _)) ; first | ((with_reducible apply go_mv_int); rfl; rfl) | ((with_reducible apply go_mv_sl); rfl; rfl) | ((with_reducible apply go_mv_str); rfl; rfl))
             | ((with_reducible apply go_as))
             | (((with_reducible apply go_load); rfl; rfl; rfl))
             | (((with_reducible apply go_fieldAddr); rfl; rfl))
             | (((with_reducible apply go_index); rfl; rfl; (intro; rfl); rfl; omega; intro hlt))
             | ((with_reducible (show evOp _ (.binOp _ _ _ _ _) _ _ _ _)) ; first | ((with_reducible apply go_cmp); rfl; rfl; rfl; rfl) | ((with_reducible apply go_add); rfl; rfl; rfl; omega) | ((with_reducible apply go_bin); rfl; rfl))
             | (((with_reducible apply go_len); rfl; rfl)))
           | ((with_reducible (show evOps _ _ _ _ _ _)); first
             | (with_reducible apply go_nil))
           | ((with_reducible (show evG _ _ _ _ _)); first
             | (with_reducible apply go_seq)
             | (with_reducible apply go_region)
             | (((with_reducible apply go_cond); rfl) <;> (intro h; simp only [h]; try simp only [decide_eq_true_eq, decide_eq_false_iff_not, Bool.not_eq_true', Bool.not_eq_false', Bool.not_true, Bool.not_false] at h; try exact absurd trivial h))
             | (with_reducible apply go_ret)
             | (with_reducible apply go_skipc)
             | (with_reducible apply go_block)
             | (with_reducible apply go_exit))
           | (with_reducible apply go_kseq)
           | (with_reducible apply go_kseq_ret)
           | (with_reducible apply go_kblock)
           | (with_reducible apply go_kblock_ret)
           | (with_reducible apply go_kblock_exit)
           | (with_reducible apply go_kseq_exit)
           | ((with_reducible apply end_int); rfl)
  · have h2 : i < l.length := by omega
    exact (idxOf_some h2 (by simpa using h) fun j hj => hC j hj (by omega)).symm
  · have h2 : i < l.length := by omega
    refine ⟨h2, fun j hj hj' => ?_, entails_eq (k := 0) (ns := []) (ks := [5, 0, 1]) [] rfl (by simp) rfl⟩
    rcases Nat.lt_succ_iff_lt_or_eq.1 hj with h' | rfl
    · exact hC j h' hj'
    · simpa using h
  · refine (idxOf_none fun x hx => ?_).symm
    obtain ⟨j, hj, rfl⟩ := List.mem_iff_getElem.1 hx
    exact hC j (by omega) hj

theorem ofName_self (l : List Soil) {i : Nat} (hi : i < l.length) : (ofName l l[i].name = i) ↔ ((l.take i).any fun y => decide (y.name = l[i].name)) = false := by
  constructor
  · intro h
    rw [List.any_eq_false]
    intro y hy
    obtain ⟨j, hj, rfl⟩ := List.mem_iff_getElem.1 hy
    simp only [List.length_take] at hj
    simp only [List.getElem_take]
    unfold ofName idxOf at h
    split at h
    · rename_i k hk
      rw [List.findIdx?_eq_some_iff_getElem] at hk
      obtain ⟨h1, h2, h3⟩ := hk
      have : k = i := by omega
      subst this
      exact h3 j (by omega)
    · omega
  · intro h
    refine idxOf_some hi (by simp) fun j hj => ?_
    rw [List.any_eq_false] at h
    have := h l[j] (List.mem_iff_getElem.2 ⟨j, by simp; omega, by simp⟩)
    simpa using this

theorem c21 (l : List Soil) (hl : l.length < 1000000000000) : Contract Try.prog 21 [.sl (l.map encSoil)] (.ret (.int .i64 (soilsE l))) := by
  refine contract_of mix Try.func21 rfl rfl (by rw [Try.ntmps21]; exact Nat.le_of_ble_eq_true rfl) ?_; rw [Try.results21, Try.ntmps21]; simp only [argsE, Nat.reduceAdd]
  repeat' first
           | (with_reducible apply go_op)
           | (with_reducible apply go_next)
           | ((with_reducible (show evOp _ _ _ _ _ _)); first
             | ((with_reducible (show evOp _ (.move _) _ _ _ _)) ; first | ((with_reducible apply go_mv_int); rfl; rfl) | ((with_reducible apply go_mv_sl); rfl; rfl))
             | ((with_reducible apply go_as))
             | (((with_reducible apply go_cmp); rfl; rfl; rfl; rfl))
             | (((with_reducible apply go_len); rfl; rfl)))
           | ((with_reducible (show evOps _ _ _ _ _ _)); first
             | (with_reducible apply go_nil))
           | ((with_reducible (show evG _ _ _ _ _)); first
             | (with_reducible apply go_seq)
             | (with_reducible apply go_region)
             | (((with_reducible apply go_cond); rfl) <;> (intro h; simp only [h]; try simp only [decide_eq_true_eq, decide_eq_false_iff_not, Bool.not_eq_true', Bool.not_eq_false', Bool.not_true, Bool.not_false] at h; try exact absurd trivial h))
             | (with_reducible apply go_ret)
             | (with_reducible apply go_skipc)
             | (with_reducible apply go_block))
           | (with_reducible apply go_kseq)
           | (with_reducible apply go_kseq_ret)
           | ((with_reducible apply end_int); rfl)
  · simp only [soilsE]; rw [if_pos (by omega)]
  · simp only [soilsE]; rw [if_neg (by omega), if_pos (by omega)]
  · refine go_count l.length (fun i => ⟨[(3, .int .i64 i), (0, .sl (l.map encSoil))], [], 0, 41⟩) (fun i => ∀ j, j < i → stepE (·.name) soilE l j = 0) (entails_eq (k := 0) (ns := []) (ks := [3, 0]) [] rfl (by simp) rfl) (by omega) ?_
    intro i hi hC
    repeat' first
           | (with_reducible apply go_op)
           | (with_reducible apply go_next)
           | ((with_reducible (show evOp _ _ _ _ _ _)); first
             | ((with_reducible (show evOp _ (.move _) _ _ _ _)) ; first | ((with_reducible apply go_mv_int); rfl; rfl) | ((with_reducible apply go_mv_sl); rfl; rfl))
             | ((with_reducible apply go_as))
             | (((with_reducible apply go_load); rfl; rfl; rfl))
             | (((with_reducible apply go_fieldAddr); rfl; rfl))
             | (((with_reducible apply go_index); rfl; rfl; (intro; rfl); rfl; omega; intro hlt))
             | ((with_reducible (show evOp _ (.binOp _ _ _ _ _) _ _ _ _)) ; first | ((with_reducible apply go_cmp); rfl; rfl; rfl; rfl) | ((with_reducible apply go_add); rfl; rfl; rfl; omega))
             | ((with_reducible (show evOp _ (.call _) _ _ _ _)) ; first | ((with_reducible apply go_len); rfl; rfl) | ((with_reducible apply go_fn_bool); rfl; (exact c83 _); rfl) | ((with_reducible apply go_fn_int); rfl; (exact c84 l hl _); rfl) | ((with_reducible apply go_fn_int); rfl; (exact c85 l[i]); rfl))
             | (((with_reducible apply go_not); rfl; rfl)))
           | ((with_reducible (show evOps _ _ _ _ _ _)); first
             | (with_reducible apply go_nil))
           | ((with_reducible (show evG _ _ _ _ _)); first
             | (with_reducible apply go_seq)
             | (with_reducible apply go_region)
             | (((with_reducible apply go_cond); rfl) <;> (intro h; simp only [h]; try simp only [decide_eq_true_eq, decide_eq_false_iff_not, Bool.not_eq_true', Bool.not_eq_false', Bool.not_true, Bool.not_false] at h; try exact absurd trivial h))
             | (with_reducible apply go_ret)
             | (with_reducible apply go_skipc)
             | (with_reducible apply go_block)
             | (with_reducible apply go_exit))
           | (with_reducible apply go_kseq)
           | (with_reducible apply go_kseq_ret)
           | (with_reducible apply go_kblock)
           | (with_reducible apply go_kblock_ret)
           | (with_reducible apply go_kblock_exit)
           | (with_reducible apply go_kseq_exit)
           | ((with_reducible apply end_int); rfl)
    all_goals have hs : soilsE l = eachE (·.name) soilE l := by simp only [soilsE]; rw [if_neg (by omega), if_neg (by omega)]
    all_goals try simp only [Int.toNat_natCast] at *
    · have h2 : i < l.length := by omega
      rw [hs]
      exact each_at h2 hC (by simp only [stepE, List.getElem?_eq_getElem h2, h]; simp) (by decide)
    · have h2 : i < l.length := by omega
      have h3 : ((l.take i).any fun y => decide (y.name = l[i].name)) = true := by
        rw [← Bool.not_eq_false, ← ofName_self l h2]; exact h
      rw [hs]
      exact each_at h2 hC (by simp only [stepE, List.getElem?_eq_getElem h2, h3, *]; simp) (by decide)
    · have h2 : i < l.length := by omega
      have h3 : ((l.take i).any fun y => decide (y.name = l[i].name)) = false := by
        rw [← ofName_self l h2]; assumption
      rw [hs]
      exact each_at h2 hC (by simp only [stepE, List.getElem?_eq_getElem h2, h3, *]; simp) h
    · have h2 : i < l.length := by omega
      have h3 : ((l.take i).any fun y => decide (y.name = l[i].name)) = false := by
        rw [← ofName_self l h2]; assumption
      refine ⟨h2, fun j hj => ?_, entails_eq (k := 0) (ns := []) (ks := [3, 0]) [] rfl (by simp) rfl⟩
      rcases Nat.lt_succ_iff_lt_or_eq.1 hj with h' | rfl
      · exact hC j h'
      · simp only [stepE, List.getElem?_eq_getElem h2, h3, *]; simp
    · rw [hs]
      exact (firstE_zero fun j hj => hC j (by omega)).symm
end Go.Pv.Soil

import Derived.Test.YtdedpndkohfgbaaSI
import Derived.Test.YtdedpndkohfgbaaProg
import Derived.Test.YtdedpndkohfgbaaSK
import Derived.KernelRfl
/- Part of the proofs over Ytdedpndkohfgbaa: PwL, PwM, PwN, Q1, Q2, S30. -/
set_option linter.unusedVariables false
set_option linter.unusedSimpArgs false
set_option linter.unnecessarySimpa false
/- One element appended to a nil list. -/
namespace Go.Pv
section
variable {P : Program} {K : X → St → Prop} {env : Env} {hp : Hp} {nx n id : Nat} {s : Tmp} {x y f : Operand} {t t' : TypeId}
theorem go_app_nil {α : Type} {f : α → List D} {e k b2 : Nat} {a : α} {fl2 : Bool} [hs : TSlice P t e k] (hf : ScalF f k) (h1 : evalD env x = .nilsl) (h2 : evalD env y = .os b2 0 1) (hb2 : lkH hp b2 = some ⟨k, fl2, [f a]⟩)
    (hc1 : ((f a).all cell1) = true) (hz : zeroOK P e = true) (hby : Nat.ble (P.bytesOf e) 4096 = true) : appendD P (lkH hp) t (evalD env x) (evalD env y) = some (none, ⟨k, true, [a].map f⟩) := by
  have hby' : P.bytesOf e ≤ 4096 := Nat.le_of_ble_eq_true hby
  have hx : contentD (lkH hp) (.os b2 0 1) = some [f a] := by simp [contentD, hb2]
  unfold appendD
  rw [hs.u, h1, h2]
  have ho : contentD (lkH hp) .nilsl = some [] := rfl
  simp only [hx, ho, Option.bind_some]
  have hft : flatRows [f a] = true := by
    have := flat_map hf [a]
    simpa using this
  rw [if_pos]
  · simp [hs.c, hft]
  · refine ⟨by rw [hs.c]; exact hs.p, fun r hr => ?_, fun r hr c hc => ?_, by simp; omega, by simp, hz, by simp [kOK, hb2, hs.c]⟩
    · simp only [List.mem_singleton] at hr
      rw [hr, (hf a).1, hs.c]
    · simp only [List.mem_singleton] at hr
      subst hr
      exact List.all_eq_true.1 hc1 c hc
end
end Go.Pv

/- Loops with a measure; parts of own lists; stores into own lists whose rows are an image. -/
namespace Go.Pv
section
variable {P : Program} {K : X → St → Prop} {env : Env} {hp : Hp} {nx n id : Nat} {s : Tmp} {x y f : Operand} {t t' : TypeId}

/-- A loop whose states carry a measure that falls. -/
theorem go_while {σ : Type} (μ : σ → Nat) (S : σ → St) (C : σ → Prop) (x0 : σ) {c : Code} {st : St} (he : Entails st (S x0)) (h0 : C x0)
    (h : ∀ x, C x → ev P c (kSeq (fun st' => ∃ y, μ y < μ x ∧ C y ∧ Entails st' (S y)) K) (S x)) : ev P (.loop c) K st := by
  refine go_loop (fun m s => ∃ x, m = μ x ∧ C x ∧ s = S x) (μ x0) (S x0) he ⟨x0, rfl, h0, rfl⟩ ?_
  rintro m s ⟨x, rfl, hC, rfl⟩
  have := h x hC
  have key : ∀ (c : Code) (f g : St → Prop) (s : St), (∀ st, f st → g st) → ev P c (kSeq f K) s → ev P c (kSeq g K) s := fun c f g s hfg => ev_mono c _ _ s fun x st hx => by
    cases x <;> first | exact hfg st hx | exact hx
  refine key c _ _ _ (fun st' ⟨y, h1, h2, h3⟩ => ?_) this
  exact ⟨μ y, S y, h1, h3, y, rfl, h2, rfl⟩

/-- The elements behind the first ones, of a list of one's own. -/
theorem go_drop_os {e : TypeId} {k b off len : Nat} {blk : Blk} {ik : IntKind} {i : Int} [hs : TSlice P t e k] (h : evalD env x = .os b off len) (h2 : evalD env y = .int ik i) (hb : lkH hp b = some blk) (hkk : blk.k = k) (hd : okDst n (some s) = true)
    (hi : 0 ≤ i ∧ i ≤ len) (hk : K .normal ⟨(s, .os b (off + i.toNat) (len - i.toNat)) :: env, hp, nx, n⟩) : evOp P (.slice t x (some y) none none) id (some s) ⟨env, hp, nx, n⟩ K := by
  rw [evOp_slice]
  refine ⟨.os b (off + i.toNat) (len - i.toNat), ?_, hd, hk⟩
  simp only [Option.map_none, Option.map_some, h, h2, sliceD, hs.u, boundD, hb]
  rw [if_pos hi.1]
  simp only []
  rw [if_pos]
  exact ⟨by omega, Nat.le_refl _, by rw [hs.c]; exact hs.p, by rw [hkk, hs.c]⟩

/-- The place of an element of a part of an own list. -/
theorem go_index_oq {α : Type} {e : TypeId} {k k' b off len : Nat} {fl : Bool} {l : List α} {f : α → List D} {ik : IntKind} {j : Int} {i : Nat} [hs : TSlice P t e k] (h : evalD env x = .os b off len) (h2 : evalD env y = .int ik j) (hb : lkH hp b = some ⟨k', fl, l.map f⟩) (hj : j = (i : Int))
    (hd : okDst n (some s) = true) (hkk : k' = k) (hi : i < len ∧ off + len ≤ l.length) (hc : ∀ (_ : off + i < l.length), K .normal ⟨(s, (.op b (off + i) 0)) :: env, hp, nx, n⟩) : evOp P (.indexAddr t x y) id (some s) ⟨env, hp, nx, n⟩ K := by
  subst hj
  refine go_index_own h h2 hb hd hkk ⟨by omega, ?_⟩ ?_
  · show off + len ≤ (l.map f).length
    rw [List.length_map]; omega
  · simpa only [Int.toNat_natCast] using hc (by omega)

/-- One element appended to the part of an own list that reaches to its end. -/
theorem go_app_mapq {α : Type} {f : α → List D} {e k b b2 off len : Nat} {l : List α} {a : α} {fl2 : Bool} [hs : TSlice P t e k] (hf : ScalF f k) (h1 : evalD env x = .os b off len) (h2 : evalD env y = .os b2 0 1) (hb : lkH hp b = some ⟨k, true, l.map f⟩) (hlen : l.length = off + len) (hb2 : lkH hp b2 = some ⟨k, fl2, [f a]⟩)
    (hc1 : ((f a).all cell1) = true) (hz : zeroOK P e = true) (hby : Nat.ble (P.bytesOf e) 4096 = true) (hn : len ≤ 1000000000) (hd : okDst n (some s) = true)
    (hk : K .normal ⟨(s, .os b 0 (len + 1)) :: purgeE b env, (b, ⟨k, true, (l.drop off ++ [a]).map f⟩) :: purgeH b hp, nx, n⟩) : evOp P (.call { callee := .builtin .append, args := #[x, y], argTypes := #[t, t] }) id (some s) ⟨env, hp, nx, n⟩ K := by
  have hby' : P.bytesOf e ≤ 4096 := Nat.le_of_ble_eq_true hby
  have hap : appendD P (lkH hp) t (evalD env x) (evalD env y) = some (some b, ⟨k, true, (l.drop off ++ [a]).map f⟩) := by
    have hx : contentD (lkH hp) (.os b2 0 1) = some [f a] := by simp [contentD, hb2]
    have ho : contentD (lkH hp) (.os b off len) = some ((l.drop off).map f) := by
      simp only [contentD, hb, Option.bind_some]
      rw [if_pos (by simp [hlen])]
      rw [List.map_drop, List.take_of_length_le (by simp; omega)]
    unfold appendD
    rw [hs.u, h1, h2]
    simp only [hx, ho, Option.bind_some]
    have hmul : (len + 1) * P.bytesOf e ≤ 140737488355328 := by
      have := Nat.mul_le_mul (show len + 1 ≤ 1000000001 by omega) hby'
      omega
    have hdl : (l.drop off).length = len := by simp; omega
    rw [if_pos]
    · rw [hb]
      simp only [Option.bind_some]
      rw [if_pos]
      · have hft : flatRows [f a] = true := by
          have := flat_map hf [a]
          simpa using this
        simp [hs.c, hft]
      · refine ⟨.inl hs.c.symm, fun r hr c hc => ?_⟩
        have : ∃ a', r = f a' := by
          simp only [List.mem_append, List.mem_map, List.mem_singleton] at hr
          rcases hr with ⟨a', _, rfl⟩ | rfl
          · exact ⟨a', rfl⟩
          · exact ⟨a, rfl⟩
        obtain ⟨a', rfl⟩ := this
        exact scal1_ment (List.all_eq_true.1 (hf a').2 c hc)
    · refine ⟨by rw [hs.c]; exact hs.p, fun r hr => ?_, fun r hr c hc => ?_, by simp only [List.length_map, hdl, List.length_cons, List.length_nil]; exact hmul, by simp only [List.length_map, hdl, List.length_cons, List.length_nil]; omega, hz, by simp [kOK, hb2, hs.c]⟩
      · simp only [List.mem_singleton] at hr
        rw [hr, (hf a).1, hs.c]
      · simp only [List.mem_singleton] at hr
        subst hr
        exact List.all_eq_true.1 hc1 c hc
  refine go_append_on hap hd ?_
  have e : (⟨k, true, (l.drop off ++ [a]).map f⟩ : Blk).rows.length = len + 1 := by simp; omega
  rw [e]
  exact hk

/-- A store into an element of an own list, or into a part of it. -/
theorem go_store_om {α : Type} {b i off k k' : Nat} {v : D} {fl : Bool} {l : List α} {f : α → List D} {a : α} [hc : TCells P t k] (ha : evalD env x = .op b i off) (hv : evalD env y = v) (hb : lkH hp b = some ⟨k', fl, l.map f⟩) (hi : i < l.length) (hkn : known v = true) (hl : (cellsD v).length = k) (h1 : (cellsD v).all cell1 = true) (h2 : (cellsD v).all lite = true)
    (hfit : off + k ≤ k') (hs : spliceL (f l[i]) off (cellsD v) = f a) (hk : K .normal ⟨env, updH b ⟨k', fl, (l.set i a).map f⟩ hp, nx, n⟩) :
    evOp P (.store t x y) id none ⟨env, hp, nx, n⟩ K := by
  refine go_store (rows := (l.set i a).map f) (fl := fl) ha hv hb hkn hl h1 hfit (by simpa using hi) ?_ (by simp [h2]) hk
  show (l.map f).set i (spliceL (getRow (l.map f) i) off (cellsD v)) = _
  rw [getRow_map hi, hs, List.map_set]

/-- A cell that is itself in any memory. -/
def cellP : D → Bool
  | .int .. | .bool _ | .str _ | .sl _ | .ptr _ => true
  | _ => false
theorem pur_cellP {h : Nat → Option Blk} {m : Nat} {c : D} (hc : cellP c = true) : pur h (m + 1) c = some c := by
  cases c <;> first | (cases hc; done) | rfl
theorem finL_cells {h hX : Nat → Option Blk} {b k len : Nat} {rows : List (List D)} (hb : h b = some ⟨k, true, rows⟩) (hlen : rows.length = len) : ∀ {cs tl tr : List D} {ss : List Src}, cs.all cellP = true → finL h hX ss tl tr →
    finL h hX (cs.map (fun _ => Src.pure) ++ .blk b :: ss) (cs ++ .os b 0 len :: tl) (cs ++ .fr k rows :: tr)
  | [], _, _, _, _, ht => ⟨⟨⟨k, true, rows⟩, rows, by rw [hlen], hb, rfl, by simp⟩, ht⟩
  | c :: cs, _, _, _, hc, ht => by
    simp only [List.all_cons, Bool.and_eq_true] at hc
    exact ⟨pur_cellP (m := 63) hc.1, finL_cells hb hlen hc.2 ht⟩
theorem frsOf_cells {b : Nat} {ss : List Src} : ∀ (cs : List D), frsOf (cs.map (fun _ => Src.pure) ++ .blk b :: ss) = b :: frsOf ss
  | [] => rfl
  | c :: cs => by simp only [List.map_cons, List.cons_append, frsOf]; exact frsOf_cells cs
theorem cells_agg (cs : List D) : cellsD (.agg cs) = cs := rfl
theorem refl_agg (cs : List D) : reflE (.agg cs) = cs.all reflC := rfl
theorem isCell_cellP {c : D} (h : cellP c = true) : isCell c = true := by cases c <;> first | (cases h; done) | rfl

/-- A struct is returned whose last cell is a new list. -/
theorem fin_agf {rv : ResultVar} {cs : List D} {b k len : Nat} {rows : List (List D)} (h : resD P ⟨env, hp, nx, n⟩ rv = some (.agg (cs ++ [.os b 0 len]))) (hb : lkH hp b = some ⟨k, true, rows⟩) (hlen : rows.length = len) (hc : cs.all cellP = true) : Fin P [rv] ⟨env, hp, nx, n⟩ (.agg (cs ++ [.fr k rows])) := by
  refine .inr ⟨cs.map (fun _ => Src.pure) ++ [.blk b], [.agg (cs ++ [.os b 0 len])], [.agg (cs ++ [.fr k rows])], by simp [h], by rw [frsOf_cells]; simp [frsOf], ?_, rfl, fun _ => rfl, by simp [isCell, cellsD], ?_⟩
  · simp only [List.flatMap_cons, List.flatMap_nil, List.append_nil, cellsD]
    exact finL_cells hb hlen hc trivial
  · simp only [List.flatMap_cons, List.flatMap_nil, List.append_nil, cellsD, List.all_append, List.all_cons, List.all_nil, Bool.and_true, Bool.and_eq_true]
    exact ⟨List.all_eq_true.2 fun c h => isCell_cellP (List.all_eq_true.1 hc c h), rfl⟩
/-- With a single value. -/
theorem fin_agf2 {r1 r2 : ResultVar} {cs : List D} {b k len : Nat} {rows : List (List D)} {d2 : D} (h : resD P ⟨env, hp, nx, n⟩ r1 = some (.agg (cs ++ [.os b 0 len]))) (hb : lkH hp b = some ⟨k, true, rows⟩) (hlen : rows.length = len) (hc : cs.all cellP = true) (h2 : resD P ⟨env, hp, nx, n⟩ r2 = some d2) (hs : cellP d2 = true) :
    Fin P [r1, r2] ⟨env, hp, nx, n⟩ (.tup [.agg (cs ++ [.fr k rows]), d2]) := by
  have hd2 : cellsD d2 = [d2] := by cases d2 <;> first | (cases hs; done) | rfl
  refine .inr ⟨cs.map (fun _ => Src.pure) ++ [.blk b, .pure], [.agg (cs ++ [.os b 0 len]), d2], [.agg (cs ++ [.fr k rows]), d2], by simp [h, h2], by rw [frsOf_cells]; simp [frsOf], ?_, rfl, fun h => by simp at h, by simp [isCell, cellsD], ?_⟩
  · simp only [List.flatMap_cons, List.flatMap_nil, List.append_nil, cells_agg, hd2, List.append_assoc, List.cons_append, List.nil_append]
    exact finL_cells hb hlen hc ⟨pur_cellP (m := 63) hs, trivial⟩
  · simp only [List.flatMap_cons, List.flatMap_nil, List.append_nil, cells_agg, hd2, List.all_append, List.all_cons, List.all_nil, Bool.and_true, Bool.and_eq_true]
    exact ⟨⟨List.all_eq_true.2 fun c h => isCell_cellP (List.all_eq_true.1 hc c h), rfl⟩, isCell_cellP hs⟩
theorem fin_agf3 {r1 r2 r3 : ResultVar} {cs : List D} {b k len : Nat} {rows : List (List D)} {d2 d3 : D} (h : resD P ⟨env, hp, nx, n⟩ r1 = some (.agg (cs ++ [.os b 0 len]))) (hb : lkH hp b = some ⟨k, true, rows⟩) (hlen : rows.length = len) (hc : cs.all cellP = true) (h2 : resD P ⟨env, hp, nx, n⟩ r2 = some d2) (hs : cellP d2 = true) (h3 : resD P ⟨env, hp, nx, n⟩ r3 = some d3) (hs3 : cellP d3 = true) :
    Fin P [r1, r2, r3] ⟨env, hp, nx, n⟩ (.tup [.agg (cs ++ [.fr k rows]), d2, d3]) := by
  have hd2 : cellsD d2 = [d2] := by cases d2 <;> first | (cases hs; done) | rfl
  have hd3 : cellsD d3 = [d3] := by cases d3 <;> first | (cases hs3; done) | rfl
  refine .inr ⟨cs.map (fun _ => Src.pure) ++ [.blk b, .pure, .pure], [.agg (cs ++ [.os b 0 len]), d2, d3], [.agg (cs ++ [.fr k rows]), d2, d3], by simp [h, h2, h3], by rw [frsOf_cells]; simp [frsOf], ?_, rfl, fun h => by simp at h, by simp [isCell, cellsD], ?_⟩
  · simp only [List.flatMap_cons, List.flatMap_nil, List.append_nil, cells_agg, hd2, hd3, List.append_assoc, List.cons_append, List.nil_append]
    exact finL_cells hb hlen hc ⟨pur_cellP (m := 63) hs, pur_cellP (m := 63) hs3, trivial⟩
  · simp only [List.flatMap_cons, List.flatMap_nil, List.append_nil, cells_agg, hd2, hd3, List.all_append, List.all_cons, List.all_nil, Bool.and_true, Bool.and_eq_true]
    exact ⟨⟨List.all_eq_true.2 fun c h => isCell_cellP (List.all_eq_true.1 hc c h), rfl⟩, isCell_cellP hs, isCell_cellP hs3⟩
/-- A new list is returned. -/
theorem end_frn {α : Type} {f : α → List D} {rv : ResultVar} {b k len : Nat} {l l' : List α} (h : resD P ⟨env, hp, nx, n⟩ rv = some (.os b 0 len)) (hb : lkH hp b = some ⟨k, true, l.map f⟩) (hlen : l.length = len) (e : l = l') : finK P [rv] (.ret (.fr k (l'.map f))) .ret ⟨env, hp, nx, n⟩ := by
  subst hlen
  exact end_fr h hb e

theorem adL_cells {k : Nat} {rows : List (List D)} : ∀ {cs : List D} {m : Nat}, cs.all cellP = true → adL m (cs ++ [.fr k rows]) = (cs ++ [.os (m + cs.length) 0 rows.length], [(m + cs.length, ⟨k, flatRows rows, rows⟩)])
  | [], m, _ => by simp [adL, adC]
  | c :: cs, m, h => by
    simp only [List.all_cons, Bool.and_eq_true] at h
    have hc : adC m c = (c, []) := by cases c <;> first | rfl | (exact absurd h.1 (by simp [cellP]))
    simp only [List.cons_append, adL, hc, adL_cells (cs := cs) (m := m + 1) h.2, List.nil_append, List.length_cons]
    rw [show m + 1 + cs.length = m + (cs.length + 1) by omega]
theorem pur_os {h : Nat → Option Blk} {b len k m : Nat} {rows : List (List D)} (hb : h b = some ⟨k, true, rows⟩) (hl : rows.length = len) : pur h (m + 1) (.os b 0 len) = some (.sl rows) := by
  simp only [pur, hb, Option.bind_some]
  rw [if_pos (by omega)]
  simp [← hl]
theorem purL_cells {h : Nat → Option Blk} {b len k : Nat} {rows : List (List D)} (hb : h b = some ⟨k, true, rows⟩) (hl : rows.length = len) : ∀ {cs : List D} {m : Nat}, cs.length + 1 < m → cs.all cellP = true → purL h m (cs ++ [.os b 0 len]) = some (cs ++ [.sl rows])
  | [], m + 2, _, _ => by simp only [List.nil_append, purL, pur_os hb hl, Option.bind_some, Option.map_some]
  | c :: cs, m + 2, hm, hs => by
    simp only [List.all_cons, Bool.and_eq_true] at hs
    simp only [List.length_cons] at hm
    simp only [List.cons_append, purL, pur_cellP (m := m) hs.1, purL_cells hb hl (cs := cs) (m := m + 1) (by omega) hs.2, Option.bind_some, Option.map_some]
  | _ :: _, 0, hm, _ => absurd hm (by simp)
  | _ :: _, 1, hm, _ => absurd hm (by simp)
  | [], 0, hm, _ => absurd hm (by simp)
  | [], 1, hm, _ => absurd hm (by simp)
/-- A struct whose last cell is an own list, handed over with others. -/
theorem purL_agf {h : Nat → Option Blk} {b len k : Nat} {rows : List (List D)} {cs ds rs : List D} (hb : h b = some ⟨k, true, rows⟩) (hl : rows.length = len) (hc : cs.all cellP = true) (hn : Nat.ble cs.length 40 = true) (hr : purL h 63 ds = some rs) :
    purL h 64 (.agg (cs ++ [.os b 0 len]) :: ds) = some (.agg (cs ++ [.sl rows]) :: rs) := by
  have hn' := Nat.le_of_ble_eq_true hn
  have e : pur h 63 (.agg (cs ++ [.os b 0 len])) = some (.agg (cs ++ [.sl rows])) := by
    show (purL h 62 _).map D.agg = _
    rw [purL_cells hb hl (by omega) hc]
    rfl
  show (pur h 63 _).bind _ = _
  rw [e]
  simp only [Option.bind_some, hr, Option.map_some]
/-- A call that returns a struct whose last cell is a new list; its arguments lead to no memory of one's own. -/
theorem go_fn_agf {α : Type} {f : α → List D} {k q : Nat} {l : List α} {cs : List D} {args : List Operand} {ts : Array TypeId} {g : FuncId} {args' : List D} (hp' : purL (lkH hp) 64 (args.map (evalD env)) = some args') (hc : Contract P g args' (.ret (.agg (cs ++ [.fr k (l.map f)])))) (hf : ScalF f k) (hcs : cs.all cellP = true) (hq : cs.length = q) (hw : Nat.ble q 31 = true)
    (hr : pureL (args.map (evalD env)) = true) (hd : okDst n (some s) = true)
    (h : K .normal ⟨(s, .agg (cs ++ [.os (id + q) 0 l.length])) :: env, (id + q, ⟨k, true, l.map f⟩) :: hp, nx, n⟩) : evOp P (.call { callee := .value (.func g), args := args.toArray, argTypes := ts }) id (some s) ⟨env, hp, nx, n⟩ K := by
  subst hq
  have hw' := Nat.le_of_ble_eq_true hw
  refine go_call_fn hp' hc (by rw [hr, Bool.true_or]) (by simp [widR, widE]; omega) hd ?_
  have e : adopt id (.agg (cs ++ [.fr k (l.map f)])) = (.agg (cs ++ [.os (id + cs.length) 0 l.length]), [(id + cs.length, ⟨k, true, l.map f⟩)]) := by
    simp [adopt, adE, adL_cells hcs, flat_map hf]
  rw [e]
  exact h
/-- The same with a single value; the struct's other cells are single values. -/
theorem go_fn_agf2 {α : Type} {f : α → List D} {k q : Nat} {l : List α} {cs : List D} {d2 : D} {args : List Operand} {ts : Array TypeId} {g : FuncId} {args' : List D} (hp' : purL (lkH hp) 64 (args.map (evalD env)) = some args') (hc : Contract P g args' (.ret (.tup [.agg (cs ++ [.fr k (l.map f)]), d2]))) (hf : ScalF f k) (hcs : cs.all cellP = true) (hq : cs.length = q) (hw : Nat.ble q 30 = true)
    (h2 : cellP d2 = true) (hr : (cs.all scal1 && scal1 d2) = true) (hd : okDst n (some s) = true)
    (h : K .normal ⟨(s, .tup [.agg (cs ++ [.os (id + q) 0 l.length]), d2]) :: env, (id + q, ⟨k, true, l.map f⟩) :: hp, nx, n⟩) : evOp P (.call { callee := .value (.func g), args := args.toArray, argTypes := ts }) id (some s) ⟨env, hp, nx, n⟩ K := by
  subst hq
  have hw' := Nat.le_of_ble_eq_true hw
  simp only [Bool.and_eq_true] at hr
  have w2 : widE d2 = 1 := by cases d2 <;> first | (cases h2; done) | rfl
  have ha2 : ∀ m, adE m d2 = (d2, []) := fun m => by cases d2 <;> first | (cases h2; done) | rfl
  have r2 : reflE d2 = true := plain_reflE (by cases d2 <;> first | (cases h2; done) | exact hr.2)
  refine go_call_fn hp' hc ?_ (by simp [widR, w2]; simp [widE]; omega) hd ?_
  · have : refless (.tup [.agg (cs ++ [.fr k (l.map f)]), d2]) = true := by
      simp only [refless, List.all_cons, List.all_nil, Bool.and_true, r2, refl_agg, List.all_append]
      rw [Bool.and_eq_true]
      refine ⟨List.all_eq_true.2 fun c hc => ?_, scalR_map hf l⟩
      have h1 := List.all_eq_true.1 hcs c hc
      have h2 := List.all_eq_true.1 hr.1 c hc
      cases c <;> first | (cases h1; done) | (cases h2; done) | rfl
    rw [this, Bool.or_true]
  have e : adopt id (.tup [.agg (cs ++ [.fr k (l.map f)]), d2]) = (.tup [.agg (cs ++ [.os (id + cs.length) 0 l.length]), d2], [(id + cs.length, ⟨k, true, l.map f⟩)]) := by
    simp only [adopt, adT, ha2]
    simp [adE, adL_cells hcs, flat_map hf]
  rw [e]
  exact h
theorem go_fn_agf3 {α : Type} {f : α → List D} {k q : Nat} {l : List α} {cs : List D} {d2 d3 : D} {args : List Operand} {ts : Array TypeId} {g : FuncId} {args' : List D} (hp' : purL (lkH hp) 64 (args.map (evalD env)) = some args') (hc : Contract P g args' (.ret (.tup [.agg (cs ++ [.fr k (l.map f)]), d2, d3]))) (hf : ScalF f k) (hcs : cs.all cellP = true) (hq : cs.length = q) (hw : Nat.ble q 29 = true)
    (h2 : cellP d2 = true) (h3 : cellP d3 = true) (hr : (cs.all scal1 && scal1 d2 && scal1 d3) = true) (hd : okDst n (some s) = true)
    (h : K .normal ⟨(s, .tup [.agg (cs ++ [.os (id + q) 0 l.length]), d2, d3]) :: env, (id + q, ⟨k, true, l.map f⟩) :: hp, nx, n⟩) : evOp P (.call { callee := .value (.func g), args := args.toArray, argTypes := ts }) id (some s) ⟨env, hp, nx, n⟩ K := by
  subst hq
  have hw' := Nat.le_of_ble_eq_true hw
  simp only [Bool.and_eq_true] at hr
  have w2 : widE d2 = 1 := by cases d2 <;> first | (cases h2; done) | rfl
  have w3 : widE d3 = 1 := by cases d3 <;> first | (cases h3; done) | rfl
  have ha2 : ∀ m, adE m d2 = (d2, []) := fun m => by cases d2 <;> first | (cases h2; done) | rfl
  have ha3 : ∀ m, adE m d3 = (d3, []) := fun m => by cases d3 <;> first | (cases h3; done) | rfl
  have r2 : reflE d2 = true := plain_reflE (by cases d2 <;> first | (cases h2; done) | exact hr.1.2)
  have r3 : reflE d3 = true := plain_reflE (by cases d3 <;> first | (cases h3; done) | exact hr.2)
  refine go_call_fn hp' hc ?_ (by simp [widR, w2, w3]; simp [widE]; omega) hd ?_
  · have : refless (.tup [.agg (cs ++ [.fr k (l.map f)]), d2, d3]) = true := by
      simp only [refless, List.all_cons, List.all_nil, Bool.and_true, r2, r3, refl_agg, List.all_append]
      rw [Bool.and_eq_true]
      refine ⟨List.all_eq_true.2 fun c hc => ?_, scalR_map hf l⟩
      have h1 := List.all_eq_true.1 hcs c hc
      have h2 := List.all_eq_true.1 hr.1.1 c hc
      cases c <;> first | (cases h1; done) | (cases h2; done) | rfl
    rw [this, Bool.or_true]
  have e : adopt id (.tup [.agg (cs ++ [.fr k (l.map f)]), d2, d3]) = (.tup [.agg (cs ++ [.os (id + cs.length) 0 l.length]), d2, d3], [(id + cs.length, ⟨k, true, l.map f⟩)]) := by
    simp only [adopt, adT, ha2, ha3]
    simp [adE, adL_cells hcs, flat_map hf]
  rw [e]
  exact h
end
end Go.Pv

/- Own lists handed over. -/
namespace Go.Pv
theorem purL_os {h : Nat → Option Blk} {b len k : Nat} {rows : List (List D)} {ds rs : List D} (hb : h b = some ⟨k, true, rows⟩) (hl : rows.length = len) (hr : purL h 63 ds = some rs) : purL h 64 (.os b 0 len :: ds) = some (.sl rows :: rs) := by
  show (pur h 63 _).bind _ = _
  rw [pur_os hb hl]
  simp only [Option.bind_some, hr, Option.map_some]
end Go.Pv

/- Beds that slump: the greatest stable bed on one side of a given one. Plain lists; no program in sight. -/
set_option linter.unusedVariables false
namespace Go.Pv.Soil

/-- The level of a cell; 30000 is unknown. -/
def lv (l : List Int) (i : Nat) : Int := l.getD i 30000
theorem lv_get {l : List Int} {i : Nat} (h : i < l.length) : lv l i = l[i] := by simp [lv, List.getD_eq_getElem?_getD, h]
theorem lv_set {l : List Int} {i : Nat} (hi : i < l.length) (v : Int) (j : Nat) : lv (l.set i v) j = if i = j then v else lv l j := by
  simp only [lv, List.getD_eq_getElem?_getD, List.getElem?_set]
  by_cases h : i = j
  · subst h; simp [hi]
  · simp [h]
theorem lv_ext {a b : List Int} (h : a.length = b.length) (hi : ∀ i, i < a.length → lv a i = lv b i) : a = b := by
  refine List.ext_getElem h fun i h1 h2 => ?_
  have := hi i h1
  rwa [lv_get h1, lv_get h2] at this

/-- Which cells are side by side, and how much they may differ. -/
structure Net where
  nb : Nat → Nat → Prop
  d : Nat → Nat → Int
structure Net.Ok (N : Net) (n : Nat) : Prop where
  sym : ∀ i k, N.nb i k → N.nb k i
  dsym : ∀ i k, N.d i k = N.d k i
  pos : ∀ i k, i < n → k < n → N.nb i k → 1 ≤ N.d i k
  irr : ∀ i, ¬ N.nb i i

def Stable (N : Net) (l : List Int) : Prop := ∀ i k, i < l.length → k < l.length → N.nb i k → lv l i ≠ 30000 → lv l k ≠ 30000 → lv l i - lv l k ≤ N.d i k
/-- The same cells are known, and none lies on the wrong side. -/
def Beyond (w : Int) (m s : List Int) : Prop := s.length = m.length ∧ ∀ i, i < m.length → (lv s i = 30000 ↔ lv m i = 30000) ∧ (lv m i ≠ 30000 → 0 ≤ (lv s i - lv m i) * w)
structure IsGS (N : Net) (w : Int) (m r : List Int) : Prop where
  below : Beyond w m r
  stable : Stable N r
  best : ∀ s, Beyond w m s → Stable N s → ∀ i, i < m.length → lv m i ≠ 30000 → 0 ≤ (lv s i - lv r i) * w
/-- On the way there. -/
structure Mid (N : Net) (w : Int) (m l : List Int) : Prop where
  below : Beyond w m l
  rng : ∀ i, i < l.length → lv l i ≠ 30000 → -20000 ≤ lv l i ∧ lv l i ≤ 20000
  best : ∀ s, Beyond w m s → Stable N s → ∀ i, i < m.length → lv m i ≠ 30000 → 0 ≤ (lv s i - lv l i) * w

theorem Mid.start {N : Net} {w : Int} {m : List Int} (h : ∀ i, i < m.length → lv m i ≠ 30000 → -20000 ≤ lv m i ∧ lv m i ≤ 20000) : Mid N w m m :=
  ⟨⟨rfl, fun i _ => ⟨Iff.rfl, fun _ => by simp⟩⟩, h, fun s hs _ i hi hk => (hs.2 i hi).2 hk⟩

theorem IsGS.uniq {N : Net} {w : Int} {m r r' : List Int} (hw : w = -1 ∨ w = 1) (h : IsGS N w m r) (h' : IsGS N w m r') : r = r' := by
  have l1 := h.below.1
  have l2 := h'.below.1
  refine lv_ext (by omega) fun i hi => ?_
  have a1 := h.below.2 i (by omega)
  have a2 := h'.below.2 i (by omega)
  by_cases hk : lv m i = 30000
  · rw [a1.1.2 hk, a2.1.2 hk]
  · have b1 := h.best r' h'.below h'.stable i (by omega) hk
    have b2 := h'.best r h.below h.stable i (by omega) hk
    rcases hw with rfl | rfl <;> omega

/-- Is a cell not too far from its neighbour against the way? -/
def Fits (N : Net) (w : Int) (l : List Int) (i k : Nat) : Prop := (lv l i - w * N.d i k - lv l k) * w ≤ 0

theorem stable_of_fits {N : Net} {w : Int} {n : Nat} (hN : N.Ok n) (hw : w = -1 ∨ w = 1) {l : List Int} (h : ∀ i k, i < l.length → k < l.length → N.nb i k → lv l i ≠ 30000 → lv l k ≠ 30000 → Fits N w l i k) : Stable N l := by
  intro i k hi hk hb h1 h2
  have e := hN.dsym i k
  rcases hw with rfl | rfl
  · have := h k i hk hi (hN.sym _ _ hb) h2 h1
    unfold Fits at this
    omega
  · have := h i k hi hk hb h1 h2
    unfold Fits at this
    omega
theorem fits_of_stable {N : Net} {w : Int} {n : Nat} (hN : N.Ok n) (hw : w = -1 ∨ w = 1) {l : List Int} (h : Stable N l) : ∀ i k, i < l.length → k < l.length → N.nb i k → lv l i ≠ 30000 → lv l k ≠ 30000 → Fits N w l i k := by
  intro i k hi hk hb h1 h2
  have e := hN.dsym i k
  unfold Fits
  rcases hw with rfl | rfl
  · have := h k i hk hi (hN.sym _ _ hb) h2 h1
    omega
  · have := h i k hi hk hb h1 h2
    omega

theorem Mid.done {N : Net} {w : Int} {m l : List Int} (h : Mid N w m l) (hs : Stable N l) : IsGS N w m l := ⟨h.below, hs, h.best⟩

/-- One cell moves as far as its neighbour lets it. -/
theorem Mid.step {N : Net} {w : Int} {n : Nat} (hN : N.Ok n) (hw : w = -1 ∨ w = 1) {m l : List Int} (hn : m.length = n) (h : Mid N w m l) {i k : Nat} (hi : i < l.length) (hk : k < l.length) (hb : N.nb i k) (h1 : lv l i ≠ 30000) (h2 : lv l k ≠ 30000)
    (hf : 0 < (lv l i - w * N.d i k - lv l k) * w) : Mid N w m (l.set k (lv l i - w * N.d i k)) := by
  have hl := h.below.1
  have d1 := hN.pos i k (by omega) (by omega) hb
  have r1 := h.rng i hi h1
  have r2 := h.rng k hk h2
  refine ⟨⟨by simp [hl], fun j hj => ?_⟩, fun j hj hu => ?_, fun s hs hst j hj hu => ?_⟩
  · have b := h.below.2 j hj
    rw [lv_set hk]
    split
    · rename_i e
      subst e
      refine ⟨⟨fun e => ?_, fun e => absurd (b.1.2 e) h2⟩, fun hu => ?_⟩
      · rcases hw with rfl | rfl <;> omega
      · have := b.2 hu
        rcases hw with rfl | rfl <;> omega
    · exact b
  · rw [List.length_set] at hj
    rw [lv_set hk] at hu ⊢
    split
    · rcases hw with rfl | rfl <;> omega
    · rename_i e
      rw [if_neg e] at hu
      exact h.rng j hj hu
  · have b := h.best s hs hst j hj hu
    rw [lv_set hk]
    split
    · rename_i e
      subst e
      have hki := h.below.2 i (by omega)
      have hui : lv m i ≠ 30000 := fun e => h1 (hki.1.2 e)
      have si := hs.2 i (by omega)
      have sk := hs.2 k (by omega)
      have bi := h.best s hs hst i (by omega) hui
      have hlen := hs.1
      have := fits_of_stable hN hw hst i k (by omega) (by omega) hb (fun e => hui (si.1.1 e)) (fun e => hu (sk.1.1 e))
      unfold Fits at this
      rcases hw with rfl | rfl <;> omega
    · exact b

/-- What is left to move. -/
def left (w : Int) (l : List Int) : Nat := (l.map fun x => (40000 - x * w).toNat).sum
/-- What has moved. -/
def total (w : Int) (l : List Int) : Int := (l.map (· * w)).sum

theorem left_set (w v : Int) : ∀ (l : List Int) (k : Nat), k < l.length → left w (l.set k v) + (40000 - lv l k * w).toNat = left w l + (40000 - v * w).toNat
  | a :: l, 0, _ => by simp only [left, List.set_cons_zero, List.map_cons, List.sum_cons, lv, List.getD_cons_zero]; omega
  | a :: l, k + 1, h => by
    have := left_set w v l k (by simpa using h)
    simp only [left, List.set_cons_succ, List.map_cons, List.sum_cons, lv, List.getD_cons_succ] at this ⊢
    omega
theorem total_set (w v : Int) : ∀ (l : List Int) (k : Nat), k < l.length → total w (l.set k v) + lv l k * w = total w l + v * w
  | a :: l, 0, _ => by simp only [total, List.set_cons_zero, List.map_cons, List.sum_cons, lv, List.getD_cons_zero]; omega
  | a :: l, k + 1, h => by
    have := total_set w v l k (by simpa using h)
    simp only [total, List.set_cons_succ, List.map_cons, List.sum_cons, lv, List.getD_cons_succ] at this ⊢
    omega

theorem left_step {N : Net} {w : Int} {n : Nat} (hN : N.Ok n) (hw : w = -1 ∨ w = 1) {m l : List Int} (hn : m.length = n) (h : Mid N w m l) {i k : Nat} (hi : i < l.length) (hk : k < l.length) (hb : N.nb i k) (h1 : lv l i ≠ 30000) (h2 : lv l k ≠ 30000)
    (hf : 0 < (lv l i - w * N.d i k - lv l k) * w) : left w (l.set k (lv l i - w * N.d i k)) < left w l := by
  have hl := h.below.1
  have d1 := hN.pos i k (by omega) (by omega) hb
  have r1 := h.rng i hi h1
  have r2 := h.rng k hk h2
  have := left_set w (lv l i - w * N.d i k) l k hk
  rcases hw with rfl | rfl <;> omega

theorem exists_gs {N : Net} {w : Int} {n : Nat} (hN : N.Ok n) (hw : w = -1 ∨ w = 1) {m : List Int} (hn : m.length = n) : ∀ (t : Nat) (l : List Int), left w l = t → Mid N w m l → ∃ r, IsGS N w m r ∧ Mid N w m r := by
  intro t
  induction t using Nat.strongRecOn with
  | ind t ih =>
    intro l ht h
    by_cases hs : Stable N l
    · exact ⟨l, h.done hs, h⟩
    · have : ∃ i k, i < l.length ∧ k < l.length ∧ N.nb i k ∧ lv l i ≠ 30000 ∧ lv l k ≠ 30000 ∧ ¬ Fits N w l i k := by
        refine Classical.byContradiction fun hc => hs (stable_of_fits hN hw fun i k a b c d e => Classical.byContradiction fun hf => hc ⟨i, k, a, b, c, d, e, hf⟩)
      obtain ⟨i, k, hi, hk, hb, h1, h2, hf⟩ := this
      have hf' : 0 < (lv l i - w * N.d i k - lv l k) * w := by unfold Fits at hf; omega
      exact ih _ (ht ▸ left_step hN hw hn h hi hk hb h1 h2 hf') _ rfl (h.step hN hw hn hi hk hb h1 h2 hf')

theorem gs_exists {N : Net} {w : Int} {n : Nat} (hN : N.Ok n) (hw : w = -1 ∨ w = 1) {m : List Int} (hn : m.length = n) (h : ∀ i, i < m.length → lv m i ≠ 30000 → -20000 ≤ lv m i ∧ lv m i ≤ 20000) : ∃ r, IsGS N w m r ∧ Mid N w m r :=
  exists_gs hN hw hn _ m rfl (Mid.start h)
theorem gs_rng {N : Net} {w : Int} (hw : w = -1 ∨ w = 1) {m r : List Int} (hN : N.Ok m.length) (h : ∀ i, i < m.length → lv m i ≠ 30000 → -20000 ≤ lv m i ∧ lv m i ≤ 20000) (hr : IsGS N w m r) : Mid N w m r := by
  obtain ⟨r', h1, h2⟩ := gs_exists hN hw rfl h
  rw [hr.uniq hw h1]
  exact h2

/-- A stable bed ends at itself. -/
theorem gs_self {N : Net} {w : Int} {m : List Int} (hs : Stable N m) : IsGS N w m m :=
  ⟨⟨rfl, fun i _ => ⟨Iff.rfl, fun _ => by simp⟩⟩, hs, fun s hs _ i hi hk => (hs.2 i hi).2 hk⟩

/-- The moved sum of a bed beyond another one is not negative. -/
theorem total_beyond {w : Int} (hw : w = -1 ∨ w = 1) : ∀ {m s : List Int}, Beyond w m s → total w m ≤ total w s
  | [], [], _ => by simp [total]
  | [], _ :: _, h => absurd h.1 (by simp)
  | _ :: _, [], h => absurd h.1 (by simp)
  | a :: m, b :: s, h => by
    have h0 := h.2 0 (by simp)
    have ht : Beyond w m s := ⟨by simpa using h.1, fun i hi => by simpa [lv] using h.2 (i + 1) (by simpa using hi)⟩
    have := total_beyond hw ht
    simp only [lv, List.getD_cons_zero] at h0
    simp only [total, List.map_cons, List.sum_cons] at this ⊢
    by_cases ha : a = 30000
    · have := h0.1.2 ha
      subst ha; subst this; omega
    · have := h0.2 ha
      rcases hw with rfl | rfl <;> omega
end Go.Pv.Soil

/- Beds that slump: the work list, passes over all pairs, proofs, and beds turned over. No program in sight. -/
set_option linter.unusedVariables false
namespace Go.Pv.Soil

theorem Fits.mono {N : Net} {w : Int} {l l' : List Int} {i k : Nat} (hw : w = -1 ∨ w = 1) (h : Fits N w l i k) (hi : lv l' i = lv l i) (hk : 0 ≤ (lv l' k - lv l k) * w) : Fits N w l' i k := by
  unfold Fits at h ⊢
  rw [hi]
  rcases hw with rfl | rfl <;> omega

/-- The work list. -/
structure Work (N : Net) (w : Int) (m l : List Int) (mv : Int) (q : List Int) : Prop where
  mid : Mid N w m l
  mv : mv = total w l - total w m
  qs : ∀ x ∈ q, ∃ k : Nat, k < m.length ∧ x = k
  fits : ∀ i k, i < l.length → k < l.length → N.nb i k → lv l i ≠ 30000 → lv l k ≠ 30000 → (i : Int) ∉ q → Fits N w l i k
  size : q.length + left w l ≤ m.length + left w m
/-- The work list while a cell's neighbours are looked at. -/
structure WorkIn (N : Net) (w : Int) (m l : List Int) (mv : Int) (q : List Int) (i : Nat) (done : Nat → Prop) : Prop where
  mid : Mid N w m l
  mv : mv = total w l - total w m
  qs : ∀ x ∈ q, ∃ k : Nat, k < m.length ∧ x = k
  fits : ∀ a k, a < l.length → k < l.length → N.nb a k → lv l a ≠ 30000 → lv l k ≠ 30000 → (a : Int) ∉ q → a ≠ i → Fits N w l a k
  own : ∀ k, k < l.length → N.nb i k → lv l k ≠ 30000 → done k → Fits N w l i k
  size : q.length + left w l < m.length + left w m
  known : i < l.length ∧ lv l i ≠ 30000

theorem Work.enter {N : Net} {w : Int} {m l : List Int} {mv : Int} {q : List Int} {i : Nat} (h : Work N w m l mv ((i : Int) :: q)) (hk : lv l i ≠ 30000) : WorkIn N w m l mv q i fun _ => False := by
  have hi : i < l.length := by
    obtain ⟨k, hk, e⟩ := h.qs i (by simp)
    have := h.mid.below.1
    omega
  refine ⟨h.mid, h.mv, fun x hx => h.qs x (by simp [hx]), fun a k a1 a2 a3 a4 a5 a6 a7 => h.fits a k a1 a2 a3 a4 a5 ?_, fun _ _ _ _ hf => hf.elim, ?_, hi, hk⟩
  · simp only [List.mem_cons, not_or]
    exact ⟨by omega, a6⟩
  · have := h.size
    simp only [List.length_cons] at this
    omega
theorem Work.skip {N : Net} {w : Int} {m l : List Int} {mv : Int} {q : List Int} {i : Nat} (h : Work N w m l mv ((i : Int) :: q)) (hk : lv l i = 30000) : Work N w m l mv q := by
  refine ⟨h.mid, h.mv, fun x hx => h.qs x (by simp [hx]), fun a k a1 a2 a3 a4 a5 a6 => h.fits a k a1 a2 a3 a4 a5 ?_, ?_⟩
  · simp only [List.mem_cons, not_or]
    refine ⟨fun e => ?_, a6⟩
    have : a = i := by omega
    subst this
    exact a4 hk
  · have := h.size
    simp only [List.length_cons] at this
    omega
theorem WorkIn.leave {N : Net} {w : Int} {m l : List Int} {mv : Int} {q : List Int} {i : Nat} {done : Nat → Prop} (h : WorkIn N w m l mv q i done) (hd : ∀ k, k < l.length → N.nb i k → done k) : Work N w m l mv q := by
  refine ⟨h.mid, h.mv, h.qs, fun a k a1 a2 a3 a4 a5 a6 => ?_, by have := h.size; omega⟩
  by_cases e : a = i
  · subst e; exact h.own k a2 a3 a5 (hd k a2 a3)
  · exact h.fits a k a1 a2 a3 a4 a5 a6 e
/-- A neighbour that is unknown, or fits. -/
theorem WorkIn.pass {N : Net} {w : Int} {m l : List Int} {mv : Int} {q : List Int} {i k : Nat} {done : Nat → Prop} (h : WorkIn N w m l mv q i done) (hf : lv l k ≠ 30000 → Fits N w l i k) : WorkIn N w m l mv q i (fun x => done x ∨ x = k) := by
  refine ⟨h.mid, h.mv, h.qs, h.fits, fun b b1 b2 b3 b4 => ?_, h.size, h.known⟩
  rcases b4 with b4 | rfl
  · exact h.own b b1 b2 b3 b4
  · exact hf b3
/-- A neighbour that moves. -/
theorem WorkIn.move {N : Net} {w : Int} (hw : w = -1 ∨ w = 1) {m l : List Int} {mv : Int} {q : List Int} {i k : Nat} {done : Nat → Prop} (hN : N.Ok m.length) (h : WorkIn N w m l mv q i done) (hk : k < l.length) (hb : N.nb i k) (hu : lv l k ≠ 30000) (hf : 0 < (lv l i - w * N.d i k - lv l k) * w) :
    WorkIn N w m (l.set k (lv l i - w * N.d i k)) (mv + (lv l i - w * N.d i k - lv l k) * w) (q ++ [(k : Int)]) i (fun x => done x ∨ x = k) := by
  have hki : i ≠ k := fun e => hN.irr i (by rw [e] at hb ⊢; exact hb)
  have hmid := h.mid.step hN hw rfl h.known.1 hk hb h.known.2 hu hf
  have hl := h.mid.below.1
  have e1 : ∀ a, a ≠ k → lv (l.set k (lv l i - w * N.d i k)) a = lv l a := fun a ha => by rw [lv_set hk, if_neg (fun e => ha e.symm)]
  have e2 : lv (l.set k (lv l i - w * N.d i k)) k = lv l i - w * N.d i k := by rw [lv_set hk, if_pos rfl]
  have e3 : ∀ b, 0 ≤ (lv (l.set k (lv l i - w * N.d i k)) b - lv l b) * w := fun b => by
    by_cases hb : b = k
    · subst hb; rw [e2]; omega
    · rw [e1 b hb]; simp
  have e4 : ∀ b, b < l.length → lv (l.set k (lv l i - w * N.d i k)) b ≠ 30000 → lv l b ≠ 30000 := fun b hb hx => by
    by_cases hbk : b = k
    · subst hbk; exact hu
    · rwa [e1 b hbk] at hx
  refine ⟨hmid, ?_, fun x hx => ?_, fun a b a1 a2 a3 a4 a5 a6 a7 => ?_, fun b b1 b2 b3 b4 => ?_, ?_, ?_⟩
  · have := total_set w (lv l i - w * N.d i k) l k hk
    rw [h.mv, Int.sub_mul]
    omega
  · rcases List.mem_append.1 hx with hx | hx
    · exact h.qs x hx
    · simp only [List.mem_singleton] at hx
      exact ⟨k, by omega, hx⟩
  · rw [List.length_set] at a1 a2
    simp only [List.mem_append, List.mem_singleton, not_or] at a6
    have hak : a ≠ k := by omega
    exact (h.fits a b a1 a2 a3 (e4 a a1 a4) (e4 b a2 a5) a6.1 a7).mono hw (e1 a hak) (e3 b)
  · rw [List.length_set] at b1
    rcases b4 with b4 | rfl
    · exact (h.own b b1 b2 (e4 b b1 b3) b4).mono hw (e1 i hki) (e3 b)
    · unfold Fits
      rw [e1 i hki, e2]
      simp
  · have := left_step hN hw rfl h.mid h.known.1 hk hb h.known.2 hu hf
    have := h.size
    simp only [List.length_append, List.length_cons, List.length_nil]
    omega
  · rw [List.length_set, e1 i hki]
    exact h.known
theorem Work.done {N : Net} {w : Int} (hw : w = -1 ∨ w = 1) {m l : List Int} {mv : Int} (hN : N.Ok m.length) (h : Work N w m l mv []) : IsGS N w m l :=
  h.mid.done (stable_of_fits hN hw fun i k a b c d e => h.fits i k a b c d e (by simp))
theorem Work.start {N : Net} {w : Int} {m : List Int} {q : List Int} (hm : ∀ i, i < m.length → lv m i ≠ 30000 → -20000 ≤ lv m i ∧ lv m i ≤ 20000) (hl : q.length ≤ m.length) (hq : ∀ i, i < m.length → (i : Int) ∈ q) (hq' : ∀ x ∈ q, ∃ k : Nat, k < m.length ∧ x = k) : Work N w m m 0 q :=
  ⟨Mid.start hm, by omega, hq', fun i k h1 _ _ _ _ h6 => absurd (hq i h1) h6, by omega⟩

/-- A pass over pairs: a cell moves as far as its neighbour lets it, if it must. -/
theorem Mid.try {N : Net} {w : Int} (hw : w = -1 ∨ w = 1) {m l : List Int} (hN : N.Ok m.length) (h : Mid N w m l) {i k : Nat} (hi : i < l.length) (hk : k < l.length) (hb : N.nb i k) (h1 : lv l i ≠ 30000) (h2 : lv l k ≠ 30000) {v : Int} (hv : v = if 0 < (lv l i - w * N.d i k - lv l k) * w then lv l i - w * N.d i k else lv l k) :
    Mid N w m (l.set k v) ∧ left w (l.set k v) ≤ left w l ∧ (0 < (lv l i - w * N.d i k - lv l k) * w → left w (l.set k v) < left w l) := by
  subst hv
  split
  · rename_i hf
    have := left_step hN hw rfl h hi hk hb h1 h2 hf
    exact ⟨h.step hN hw rfl hi hk hb h1 h2 hf, by omega, fun _ => this⟩
  · rename_i hf
    have e : l.set k (lv l k) = l := by rw [lv_get hk]; exact List.set_getElem_self hk
    rw [e]
    exact ⟨h, Nat.le_refl _, fun h => absurd h hf⟩

/-- The proof of a slumped bed: what is lower is held by a neighbour. -/
def Held (N : Net) (m a : List Int) : Prop := ∀ i, i < m.length → lv m i ≠ 30000 → lv a i ≠ lv m i → ∃ k, k < m.length ∧ N.nb i k ∧ lv a k ≠ 30000 ∧ lv a i = lv a k + N.d i k

theorem gs_of_held {N : Net} {m r a : List Int} (hN : N.Ok m.length) (hr : IsGS N (-1) m r) (hb : Beyond (-1) m a) (hs : Stable N a) (hh : Held N m a) (ha : ∀ i, i < a.length → lv a i ≠ 30000 → -20000 ≤ lv a i) : a = r := by
  have l1 := hr.below.1
  have l2 := hb.1
  have key : ∀ (t : Nat) (i : Nat), i < m.length → lv m i ≠ 30000 → (lv a i + 20000).toNat = t → lv r i ≤ lv a i := by
    intro t
    induction t using Nat.strongRecOn with
    | ind t ih =>
      intro i hi hk ht
      refine Classical.byContradiction fun hc => ?_
      have b1 := hr.below.2 i hi
      have b2 := hb.2 i hi
      have hka : lv a i ≠ 30000 := fun e => hk (b2.1.1 e)
      obtain ⟨k, k1, k2, k3, k4⟩ := hh i hi hk (by have := b1.2 hk; omega)
      have hp := hN.pos i k hi k1 k2
      have b3 := hb.2 k k1
      have b4 := hr.below.2 k k1
      have hmk : lv m k ≠ 30000 := fun e => k3 (b3.1.2 e)
      have r1 := ha i (by omega) hka
      have r2 := ha k (by omega) k3
      have := ih (lv a k + 20000).toNat (by omega) k k1 hmk rfl
      have := hr.stable i k (by omega) (by omega) k2 (fun e => hk (b1.1.1 e)) (fun e => hmk (b4.1.1 e))
      omega
  refine lv_ext (by omega) fun i hi => ?_
  by_cases hk : lv m i = 30000
  · rw [(hr.below.2 i (by omega)).1.2 hk, (hb.2 i (by omega)).1.2 hk]
  · have := key _ i (by omega) hk rfl
    have := hr.best a hb hs i (by omega) hk
    omega

theorem held_of_gs {N : Net} {m r : List Int} (hN : N.Ok m.length) (hr : IsGS N (-1) m r) (hm : ∀ i, i < m.length → lv m i ≠ 30000 → lv m i ≤ 20000) : Held N m r := by
  have l1 := hr.below.1
  intro i hi hk hne
  refine Classical.byContradiction fun hc => ?_
  have b1 := hr.below.2 i hi
  have hki : lv r i ≠ 30000 := fun e => hk (b1.1.1 e)
  have hlt : lv r i + 1 ≤ lv m i := by have := b1.2 hk; omega
  have hm1 := hm i hi hk
  have hir : i < r.length := by omega
  have e1 : ∀ a, a ≠ i → lv (r.set i (lv r i + 1)) a = lv r a := fun a ha => by rw [lv_set hir, if_neg (fun e => ha e.symm)]
  have e2 : lv (r.set i (lv r i + 1)) i = lv r i + 1 := by rw [lv_set hir, if_pos rfl]
  have hB : Beyond (-1) m (r.set i (lv r i + 1)) := by
    refine ⟨by simp [l1], fun j hj => ?_⟩
    by_cases e : j = i
    · subst e
      rw [e2]
      exact ⟨⟨fun h => by omega, fun h => absurd h hk⟩, fun _ => by omega⟩
    · rw [e1 j e]
      exact hr.below.2 j hj
  have hS : Stable N (r.set i (lv r i + 1)) := by
    intro a b ha hb hab ka kb
    rw [List.length_set] at ha hb
    by_cases ea : a = i
    · subst ea
      by_cases eb : b = a
      · subst eb; exact (hN.irr _ hab).elim
      · rw [e1 b eb] at kb ⊢
        rw [e2]
        have := hr.stable a b ha hb hab hki kb
        have : lv r a ≠ lv r b + N.d a b := fun h => hc ⟨b, by omega, hab, kb, h⟩
        omega
    · rw [e1 a ea] at ka ⊢
      by_cases eb : b = i
      · subst eb
        rw [e2]
        have := hr.stable a b ha hb hab ka hki
        omega
      · rw [e1 b eb] at kb ⊢
        exact hr.stable a b ha hb hab ka kb
  have := hr.best _ hB hS i hi hk
  rw [e2] at this
  omega

/-- A bed turned over. -/
def turn (l : List Int) : List Int := l.map fun x => if x = 30000 then x else -x
theorem lv_turn {l : List Int} {i : Nat} (h : i < l.length) : lv (turn l) i = if lv l i = 30000 then 30000 else -lv l i := by
  rw [lv_get (by simpa [turn] using h), lv_get h]
  simp only [turn, List.getElem_map]
  split <;> simp [*]
def Far (l : List Int) : Prop := ∀ i, i < l.length → lv l i ≠ -30000
theorem turn_known {l : List Int} (hf : Far l) {i : Nat} (h : i < l.length) : lv (turn l) i = 30000 ↔ lv l i = 30000 := by
  rw [lv_turn h]
  have := hf i h
  split
  · simp [*]
  · constructor <;> intro h <;> omega
theorem turn_turn {l : List Int} (hf : Far l) : turn (turn l) = l := by
  refine lv_ext (by simp [turn]) fun i hi => ?_
  have hi' : i < l.length := by simpa [turn] using hi
  have h1 := lv_turn (l := turn l) (i := i) (by simpa [turn] using hi')
  have h2 := lv_turn hi'
  have h3 := turn_known hf hi'
  have h4 := hf i hi'
  rw [h1]
  by_cases h : lv l i = 30000
  · rw [if_pos (h3.2 h), h]
  · rw [if_neg (fun e => h (h3.1 e)), h2, if_neg h]; omega
theorem stable_turn {N : Net} {n : Nat} (hN : N.Ok n) {l : List Int} (hf : Far l) (h : Stable N l) : Stable N (turn l) := by
  intro i k hi hk hb h1 h2
  have hi' : i < l.length := by simpa [turn] using hi
  have hk' : k < l.length := by simpa [turn] using hk
  rw [Ne, turn_known hf hi'] at h1
  rw [Ne, turn_known hf hk'] at h2
  rw [lv_turn hi', lv_turn hk', if_neg h1, if_neg h2]
  have := h k i hk' hi' (hN.sym _ _ hb) h2 h1
  have := hN.dsym i k
  omega
theorem beyond_turn {w : Int} (hw : w = -1 ∨ w = 1) {m s : List Int} (hm : Far m) (hs : Far s) (h : Beyond w m s) : Beyond (-w) (turn m) (turn s) := by
  refine ⟨by simpa [turn] using h.1, fun i hi => ?_⟩
  have hi' : i < m.length := by simpa [turn] using hi
  have hl := h.1
  have b := h.2 i hi'
  rw [turn_known hm hi', turn_known hs (by omega)]
  refine ⟨b.1, fun hk0 => ?_⟩
  have hk : lv m i ≠ 30000 := fun e => hk0 ((turn_known hm hi').2 e)
  have hk' : lv s i ≠ 30000 := fun e => hk (b.1.1 e)
  rw [lv_turn hi', lv_turn (by omega), if_neg hk, if_neg hk']
  have := b.2 hk
  rcases hw with rfl | rfl <;> omega
theorem gs_turn {N : Net} {m r : List Int} (hN : N.Ok m.length) (hm : ∀ i, i < m.length → lv m i ≠ 30000 → -20000 ≤ lv m i ∧ lv m i ≤ 20000) (hr : IsGS N 1 m r) : IsGS N (-1) (turn m) (turn r) := by
  have fm : Far m := fun i hi e => by have := hm i hi (by omega); omega
  have hlt : (turn m).length = m.length := by simp [turn]
  have hm' : ∀ i, i < (turn m).length → lv (turn m) i ≠ 30000 → -20000 ≤ lv (turn m) i ∧ lv (turn m) i ≤ 20000 := fun i hi hk => by
    rw [hlt] at hi
    have h1 : lv m i ≠ 30000 := fun e => hk ((turn_known fm hi).2 e)
    have := hm i hi h1
    rw [lv_turn hi, if_neg h1]
    omega
  obtain ⟨r', h1, h2⟩ := gs_exists (hlt.symm ▸ hN) (.inl rfl) rfl hm'
  have fr : Far r' := fun i hi e => by have := h2.rng i hi (by omega); omega
  have hb : Beyond 1 m (turn r') := by
    have := beyond_turn (.inl rfl) (fun i hi e => by have := hm' i hi (by omega); omega) fr h1.below
    rwa [turn_turn fm] at this
  have e : IsGS N 1 m (turn r') := by
    refine ⟨hb, stable_turn hN fr h1.stable, fun s hs hst i hi hk => ?_⟩
    have fs : Far s := fun i hi e => by
      have hl := hs.1
      have b := hs.2 i (by omega)
      have hk : lv m i ≠ 30000 := fun h => by have := b.1.2 h; omega
      have := hm i (by omega) hk
      have := b.2 hk
      omega
    have := h1.best (turn s) (beyond_turn (.inr rfl) fm fs hs) (stable_turn hN fs hst) i (by omega) (fun e => hk ((turn_known fm hi).1 e))
    have hl := hs.1
    have hl' := h1.below.1
    have kr := h1.below.2 i (by omega)
    have hr0 : lv r' i ≠ 30000 := fun e => hk ((turn_known fm hi).1 (kr.1.1 e))
    have hs0 : lv s i ≠ 30000 := fun e => hk ((hs.2 i hi).1.1 e)
    rw [lv_turn (by omega), if_neg hs0] at this
    rw [lv_turn (by omega), if_neg hr0]
    omega
  rw [hr.uniq (.inr rfl) e, turn_turn fr]
  exact h1
theorem total_turn {w : Int} : ∀ {m s : List Int}, s.length = m.length → (∀ i, i < m.length → (lv s i = 30000 ↔ lv m i = 30000)) → total (-w) (turn s) - total (-w) (turn m) = total w s - total w m
  | [], [], _, _ => by simp [total, turn]
  | [], _ :: _, h, _ => absurd h (by simp)
  | _ :: _, [], h, _ => absurd h (by simp)
  | a :: m, b :: s, h, hk => by
    have h0 := hk 0 (by simp)
    have := total_turn (w := w) (m := m) (s := s) (by simpa using h) (fun i hi => by simpa [lv] using hk (i + 1) (by simpa using hi))
    simp only [lv, List.getD_cons_zero] at h0
    simp only [total, turn, List.map_cons, List.sum_cons] at this ⊢
    by_cases ha : a = 30000
    · have hb := h0.2 ha
      rw [if_pos ha, if_pos hb, ha, hb]
      omega
    · have hb : b ≠ 30000 := fun e => ha (h0.1 e)
      rw [if_neg ha, if_neg hb, Int.neg_mul_neg, Int.neg_mul_neg]
      omega
theorem far_of {m s : List Int} {w : Int} (h : Beyond w m s) (hs : ∀ i, i < s.length → lv s i ≠ 30000 → -20000 ≤ lv s i) : Far s := by
  intro i hi e
  have := hs i hi (by omega)
  omega
end Go.Pv.Soil

open Go Go.Proofs Go.Pv
set_option maxHeartbeats 2000000
set_option maxRecDepth 100000
set_option linter.unusedSimpArgs false
set_option linter.unusedVariables false
namespace Go.Pv.Soil

theorem div_mod_of {a b q r : Int} (hb : 0 < b) (h : r + b * q = a) (h0 : 0 ≤ r) (h1 : r < b) : a / b = q ∧ a % b = r :=
  (Int.ediv_emod_unique hb).2 ⟨h, h0, h1⟩
theorem beside_iff (c i k : Int) (hc : 1 ≤ c) : (i % c - k % c).natAbs + (i / c - k / c).natAbs = 1 ↔ k = i - c ∨ (k = i - 1 ∧ 0 < i % c) ∨ (k = i + 1 ∧ i % c < c - 1) ∨ k = i + c := by
  have e1 := Int.emod_add_mul_ediv i c
  have e2 := Int.emod_add_mul_ediv k c
  have l1 := Int.emod_lt_of_pos i (b := c) (by omega)
  have l2 := Int.emod_lt_of_pos k (b := c) (by omega)
  have n1 := Int.emod_nonneg i (b := c) (by omega)
  have n2 := Int.emod_nonneg k (b := c) (by omega)
  constructor
  · intro h
    have : (i % c = k % c ∧ (k / c = i / c + 1 ∨ k / c = i / c - 1)) ∨ (i / c = k / c ∧ (k % c = i % c + 1 ∨ k % c = i % c - 1)) := by omega
    rcases this with ⟨h1, h2 | h2⟩ | ⟨h1, h2⟩
    · rw [h2, Int.mul_add] at e2; omega
    · rw [h2, Int.mul_sub] at e2; omega
    · rw [← h1] at e2; omega
  · intro h
    rcases h with h | ⟨h, h'⟩ | ⟨h, h'⟩ | h
    · obtain ⟨h1, h2⟩ := div_mod_of (a := k) (b := c) (q := i / c - 1) (r := i % c) (by omega) (by rw [Int.mul_sub]; omega) n1 l1
      omega
    · obtain ⟨h1, h2⟩ := div_mod_of (a := k) (b := c) (q := i / c) (r := i % c - 1) (by omega) (by omega) (by omega) (by omega)
      omega
    · obtain ⟨h1, h2⟩ := div_mod_of (a := k) (b := c) (q := i / c) (r := i % c + 1) (by omega) (by omega) (by omega) (by omega)
      omega
    · obtain ⟨h1, h2⟩ := div_mod_of (a := k) (b := c) (q := i / c + 1) (r := i % c) (by omega) (by rw [Int.mul_add]; omega) n1 l1
      omega
theorem besideE_iff (g : Grid) (hc : 1 ≤ g.cols) (i k : Nat) : besideE g i k = true ↔ ((k : Int) = i - g.cols ∨ ((k : Int) = i - 1 ∧ 0 < (i : Int) % g.cols) ∨ ((k : Int) = i + 1 ∧ (i : Int) % g.cols < g.cols - 1) ∨ (k : Int) = i + g.cols) := by
  rw [← beside_iff g.cols i k hc]; simp [besideE]

/-- The cells beside a cell: above, left, right, below. -/
def near4 (g : Grid) (i : Nat) : List Int :=
  (if g.cols ≤ i then [(i : Int) - g.cols] else []) ++ (if 0 < (i : Int) % g.cols then [(i : Int) - 1] else []) ++ (if (i : Int) % g.cols < g.cols - 1 then [(i : Int) + 1] else []) ++ (if (i : Int) + g.cols < g.levels.length then [(i : Int) + g.cols] else [])

theorem nearL_eq (g : Grid) (hc : 1 ≤ g.cols) (i : Nat) : ∀ n : Nat, nearL g i n =
    (if g.cols ≤ i ∧ (i : Int) - g.cols < n then [(i : Int) - g.cols] else []) ++ (if 0 < (i : Int) % g.cols ∧ (i : Int) - 1 < n then [(i : Int) - 1] else []) ++ (if (i : Int) % g.cols < g.cols - 1 ∧ (i : Int) + 1 < n then [(i : Int) + 1] else []) ++ (if (i : Int) + g.cols < n then [(i : Int) + g.cols] else [])
  | 0 => by
    have n1 := Int.emod_nonneg i (b := g.cols) (by omega)
    have n3 := Int.emod_lt_of_pos i (b := g.cols) (by omega)
    have n2 : 0 < (i : Int) % g.cols → 1 ≤ (i : Int) := by
      intro h
      by_cases h0 : i = 0
      · subst h0; simp at h
      · omega
    rw [if_neg (by omega), if_neg (by omega), if_neg (by omega), if_neg (by omega)]; rfl
  | n + 1 => by
    have ih := nearL_eq g hc i n
    have n1 := Int.emod_nonneg i (b := g.cols) (by omega)
    have n3 := Int.emod_lt_of_pos i (b := g.cols) (by omega)
    have n2 : 0 < (i : Int) % g.cols → 1 ≤ (i : Int) := by
      intro h
      by_cases h0 : i = 0
      · subst h0; simp at h
      · omega
    simp only [nearL, ih]
    have hbi := besideE_iff g hc i n
    generalize (i : Int) % g.cols = m at *
    by_cases hb : besideE g i n = true
    · rw [if_pos hb]
      rw [hbi] at hb
      rcases hb with hb | ⟨hb, hb'⟩ | ⟨hb, hb'⟩ | hb
      all_goals ((repeat' split) <;> first | (exfalso; omega) | (simp only [List.append_nil, List.nil_append, List.append_assoc, List.cons_append, List.cons.injEq, and_true, true_and]; omega) | (simp only [List.append_nil, List.nil_append, List.append_assoc, List.cons_append, hb]; done))
    · rw [if_neg hb]
      rw [hbi] at hb
      (repeat' split) <;> first | rfl | (exfalso; omega)

theorem near4_eq (g : Grid) (hc : 1 ≤ g.cols) (i : Nat) (hi : i < g.levels.length) (hw : (i : Int) % g.cols < g.cols - 1 → (i : Int) + 1 < g.levels.length) : nearL g i g.levels.length = near4 g i := by
  rw [nearL_eq g hc]
  unfold near4
  (repeat' split) <;> first | rfl | (exfalso; omega)

theorem c181 (g : Grid) (h : OkGrid g) (i : Nat) (hi : i < g.levels.length) : Contract Try.prog 181 [.agg (encGrid g), .int .i64 i] (.ret (.fr 1 ((nearL g i g.levels.length).map encInt))) := by
  have hb := h.bds
  have hc := cell_bds h hi
  have hs := h.small
  have hn := near4_eq g (by omega) i hi fun hw => by
    have h1 := Int.emod_add_mul_ediv (i : Int) g.cols
    have h2 := Int.mul_le_mul_of_nonneg_left (show (i : Int) / g.cols + 1 ≤ g.rows by omega) (show 0 ≤ g.cols by omega)
    rw [Int.mul_add] at h2
    have h3 := h.len
    omega
  refine contract_of mix Try.func181 rfl rfl (by rw [Try.ntmps181]; exact Nat.le_of_ble_eq_true rfl) ?_; rw [Try.results181, Try.ntmps181]; simp only [argsE, Nat.reduceAdd]
  repeat' first
           | (with_reducible apply go_op)
           | (with_reducible apply go_next)
           | ((with_reducible (show evOp _ _ _ _ _ _)); first
             | ((with_reducible (show evOp _ (.move _) _ _ _ _)) ; first | ((with_reducible apply go_mv_int); rfl; rfl) | ((with_reducible apply go_mv_nilsl); rfl; rfl))
             | ((with_reducible apply go_as))
             | (((with_reducible apply go_load_own); rfl; rfl; rfl; rfl))
             | (((with_reducible apply go_fieldAddr_own); rfl; rfl; rfl))
             | ((with_reducible (show evOp _ (.binOp _ _ _ _ _) _ _ _ _)) ; first | ((with_reducible apply go_cmp); rfl; rfl; rfl; rfl) | ((with_reducible apply go_add); rfl; rfl; rfl; omega) | ((with_reducible apply go_sub); rfl; rfl; rfl; omega) | ((with_reducible apply go_rem_pos); rfl; rfl; rfl; omega))
             | (((with_reducible apply go_len); rfl; rfl))
             | (((with_reducible apply go_bx_agg); rfl; rfl; (exact Nat.le_of_ble_eq_true rfl); rfl; rfl))
             | (((with_reducible apply go_bs1_int); rfl; rfl; rfl)))
           | ((with_reducible (show evOps _ _ _ _ _ _)); first
             | (with_reducible apply go_nil)
             | ((with_reducible apply go_pre); rfl)
             | (with_reducible apply go_pre_nil)
             | ((with_reducible apply go_suf); rfl)
             | (with_reducible apply go_suf_nil))
           | ((with_reducible (show ev _ _ _ _)); first
             | (with_reducible apply go_seq)
             | (with_reducible apply go_region)
             | (((with_reducible apply go_cond); rfl) <;> (intro h; simp only [h]; try simp only [decide_eq_true_eq, decide_eq_false_iff_not, Bool.not_eq_true', Bool.not_eq_false', Bool.not_true, Bool.not_false] at h; try exact absurd trivial h))
             | ((with_reducible apply go_order); kernel_rfl; rfl)
             | (with_reducible apply go_ret)
             | (with_reducible apply go_skipc))
           | (with_reducible apply go_kseq)
           | (with_reducible apply go_ksuf)
  all_goals try first
    | (refine go_append_new (go_app_nil (f := encInt) scalInt rfl rfl rfl rfl (by kernel_rfl) (by kernel_rfl)) rfl ?_)
    | (refine go_app_map (f := encInt) scalInt rfl rfl rfl rfl rfl rfl (by kernel_rfl) (by kernel_rfl) (by simp) rfl ?_)
  repeat' first
           | (with_reducible apply go_op)
           | (with_reducible apply go_next)
           | ((with_reducible (show evOp _ _ _ _ _ _)); first
             | ((with_reducible (show evOp _ (.move _) _ _ _ _)) ; first | ((with_reducible apply go_mv_int); rfl; rfl) | ((with_reducible apply go_mv_os); rfl; rfl))
             | ((with_reducible apply go_as))
             | (((with_reducible apply go_load_own); rfl; rfl; rfl; rfl))
             | (((with_reducible apply go_fieldAddr_own); rfl; rfl; rfl))
             | ((with_reducible (show evOp _ (.binOp _ _ _ _ _) _ _ _ _)) ; first | ((with_reducible apply go_cmp); rfl; rfl; rfl; rfl) | ((with_reducible apply go_add); rfl; rfl; rfl; omega) | ((with_reducible apply go_sub); rfl; rfl; rfl; omega) | ((with_reducible apply go_rem_pos); rfl; rfl; rfl; omega))
             | (((with_reducible apply go_len); rfl; rfl))
             | (((with_reducible apply go_bs1_int); rfl; rfl; rfl)))
           | ((with_reducible (show evOps _ _ _ _ _ _)); first
             | (with_reducible apply go_nil)
             | ((with_reducible apply go_pre); rfl)
             | (with_reducible apply go_pre_nil)
             | ((with_reducible apply go_suf); rfl)
             | (with_reducible apply go_suf_nil))
           | ((with_reducible (show ev _ _ _ _)); first
             | (with_reducible apply go_seq)
             | (with_reducible apply go_region)
             | (((with_reducible apply go_cond); rfl) <;> (intro h; simp only [h]; try simp only [decide_eq_true_eq, decide_eq_false_iff_not, Bool.not_eq_true', Bool.not_eq_false', Bool.not_true, Bool.not_false] at h; try exact absurd trivial h))
             | ((with_reducible apply go_order); kernel_rfl; rfl)
             | (with_reducible apply go_ret)
             | (with_reducible apply go_skipc))
           | (with_reducible apply go_kseq)
           | (with_reducible apply go_ksuf)
  all_goals try first
    | (refine go_append_new (go_app_nil (f := encInt) scalInt rfl rfl rfl rfl (by kernel_rfl) (by kernel_rfl)) rfl ?_)
    | (refine go_app_map (f := encInt) scalInt rfl rfl rfl rfl rfl rfl (by kernel_rfl) (by kernel_rfl) (by simp) rfl ?_)
  repeat' first
           | (with_reducible apply go_op)
           | (with_reducible apply go_next)
           | ((with_reducible (show evOp _ _ _ _ _ _)); first
             | ((with_reducible (show evOp _ (.move _) _ _ _ _)) ; first | ((with_reducible apply go_mv_int); rfl; rfl) | ((with_reducible apply go_mv_os); rfl; rfl))
             | ((with_reducible apply go_as))
             | (((with_reducible apply go_load_own); rfl; rfl; rfl; rfl))
             | (((with_reducible apply go_fieldAddr_own); rfl; rfl; rfl))
             | ((with_reducible (show evOp _ (.binOp _ _ _ _ _) _ _ _ _)) ; first | ((with_reducible apply go_cmp); rfl; rfl; rfl; rfl) | ((with_reducible apply go_add); rfl; rfl; rfl; omega) | ((with_reducible apply go_sub); rfl; rfl; rfl; omega) | ((with_reducible apply go_rem_pos); rfl; rfl; rfl; omega))
             | (((with_reducible apply go_len); rfl; rfl))
             | (((with_reducible apply go_bs1_int); rfl; rfl; rfl)))
           | ((with_reducible (show evOps _ _ _ _ _ _)); first
             | (with_reducible apply go_nil)
             | ((with_reducible apply go_pre); rfl)
             | (with_reducible apply go_pre_nil)
             | ((with_reducible apply go_suf); rfl)
             | (with_reducible apply go_suf_nil))
           | ((with_reducible (show ev _ _ _ _)); first
             | (with_reducible apply go_seq)
             | (with_reducible apply go_region)
             | (((with_reducible apply go_cond); rfl) <;> (intro h; simp only [h]; try simp only [decide_eq_true_eq, decide_eq_false_iff_not, Bool.not_eq_true', Bool.not_eq_false', Bool.not_true, Bool.not_false] at h; try exact absurd trivial h))
             | ((with_reducible apply go_order); kernel_rfl; rfl)
             | (with_reducible apply go_ret)
             | (with_reducible apply go_skipc))
           | (with_reducible apply go_kseq)
           | (with_reducible apply go_ksuf)
  all_goals try first
    | (refine go_append_new (go_app_nil (f := encInt) scalInt rfl rfl rfl rfl (by kernel_rfl) (by kernel_rfl)) rfl ?_)
    | (refine go_app_map (f := encInt) scalInt rfl rfl rfl rfl rfl rfl (by kernel_rfl) (by kernel_rfl) (by simp) rfl ?_)
  repeat' first
           | (with_reducible apply go_op)
           | (with_reducible apply go_next)
           | ((with_reducible (show evOp _ _ _ _ _ _)); first
             | ((with_reducible (show evOp _ (.move _) _ _ _ _)) ; first | ((with_reducible apply go_mv_int); rfl; rfl) | ((with_reducible apply go_mv_os); rfl; rfl))
             | ((with_reducible apply go_as))
             | (((with_reducible apply go_load_own); rfl; rfl; rfl; rfl))
             | (((with_reducible apply go_fieldAddr_own); rfl; rfl; rfl))
             | ((with_reducible (show evOp _ (.binOp _ _ _ _ _) _ _ _ _)) ; first | ((with_reducible apply go_cmp); rfl; rfl; rfl; rfl) | ((with_reducible apply go_add); rfl; rfl; rfl; omega))
             | (((with_reducible apply go_len); rfl; rfl))
             | (((with_reducible apply go_bs1_int); rfl; rfl; rfl)))
           | ((with_reducible (show evOps _ _ _ _ _ _)); first
             | (with_reducible apply go_nil))
           | ((with_reducible (show ev _ _ _ _)); first
             | (with_reducible apply go_seq)
             | (with_reducible apply go_region)
             | (((with_reducible apply go_cond); rfl) <;> (intro h; simp only [h]; try simp only [decide_eq_true_eq, decide_eq_false_iff_not, Bool.not_eq_true', Bool.not_eq_false', Bool.not_true, Bool.not_false] at h; try exact absurd trivial h))
             | (with_reducible apply go_ret)
             | (with_reducible apply go_skipc))
           | (with_reducible apply go_kseq)
  all_goals try first
    | (refine go_append_new (go_app_nil (f := encInt) scalInt rfl rfl rfl rfl (by kernel_rfl) (by kernel_rfl)) rfl ?_)
    | (refine go_app_map (f := encInt) scalInt rfl rfl rfl rfl rfl rfl (by kernel_rfl) (by kernel_rfl) (by simp) rfl ?_)
  repeat' first
           | (with_reducible apply go_op)
           | (with_reducible apply go_next)
           | ((with_reducible (show evOp _ _ _ _ _ _)); first
             | (((with_reducible apply go_mv_os); rfl; rfl))
             | ((with_reducible apply go_as)))
           | ((with_reducible (show evOps _ _ _ _ _ _)); first
             | (with_reducible apply go_nil))
           | ((with_reducible (show ev _ _ _ _)); first
             | (with_reducible apply go_seq)
             | (with_reducible apply go_region)
             | (with_reducible apply go_ret))
           | (with_reducible apply go_kseq)
  all_goals first
    | (refine end_frn rfl rfl rfl ?_; rw [hn]; unfold near4; simp [*]; done)
    | (have e : near4 g i = [] := by unfold near4; simp [*]
       rw [hn, e]; exact finK_ret (fin1_nil rfl))
    | trace_state
end Go.Pv.Soil

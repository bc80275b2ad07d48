import Derived.Test.YtdedpndkohfgbaaGreatNAC
import GoSem.Core.Float
import Derived.Shelf.SlIterI.Sorted
import Derived.Shelf.SortM.Plain
/- Part of the proofs over YtdedpndkohfgbaaGreat: PwM, PwN, PwO, PwP, PwQ, PwR, PwS, PwT, PwU, PvSq, PwV, PwW, PxC, PxD, PxE, PyA. -/
set_option linter.unusedVariables false
set_option linter.unusedSimpArgs false
set_option linter.unnecessarySimpa false
/- Loops with a measure; parts of own lists; stores into own lists whose rows are an image. -/
namespace Go.Pv
section
variable {P : Program} {E : St → St → Prop} {K : X → St → Prop} {env : Env} {hp : Hp} {nx n id : Nat} {s : Tmp} {x y f : Operand} {t t' : TypeId}

/-- A loop whose states carry a measure that falls. -/
theorem go_while {σ : Type} (μ : σ → Nat) (S : σ → St) (C : σ → Prop) (x0 : σ) {c : Code} {st : St} (he : E st (S x0)) (h0 : C x0)
    (h : ∀ x, C x → evG E P c (kSeq (fun st' => ∃ y, μ y < μ x ∧ C y ∧ E st' (S y)) K) (S x)) : evG E P (.loop c) K st := by
  refine go_loop (fun m s => ∃ x, m = μ x ∧ C x ∧ s = S x) (μ x0) (S x0) he ⟨x0, rfl, h0, rfl⟩ ?_
  rintro m s ⟨x, rfl, hC, rfl⟩
  have := h x hC
  have key : ∀ (c : Code) (f g : St → Prop) (s : St), (∀ st, f st → g st) → evG E P c (kSeq f K) s → evG E P c (kSeq g K) s := fun c f g s hfg => ev_mono c _ _ s fun x st hx => by
    cases x <;> first | exact hfg st hx | exact hx
  refine key c _ _ _ (fun st' ⟨y, h1, h2, h3⟩ => ?_) this
  exact ⟨μ y, S y, h1, h3, y, rfl, h2, rfl⟩

/-- The elements behind the first ones, of a list of one's own. -/
theorem go_drop_os {e : TypeId} {k b off len : Nat} {blk : Blk} {ik : IntKind} {i : Int} [hs : TSlice P t e k] (h : evalD env x = .os b off len) (h2 : evalD env y = .int ik i) (hb : lkH hp b = some blk) (hkk : blk.k = k) (hd : okDst n (some s) = true)
    (hi : 0 ≤ i ∧ i ≤ len) (hk : K .normal ⟨(s, .os b (off + i.toNat) (len - i.toNat)) :: env, hp, nx, n⟩) : evOp P (.slice t x (some y) none none) id (some s) ⟨env, hp, nx, n⟩ K := by
  rw [evOp_slice]
  refine ⟨.os b (off + i.toNat) (len - i.toNat), ?_, hd, hk⟩
  simp only [Option.map_none, Option.map_some, h, h2, sliceD, hs.u, boundD, hb]
  rw [if_pos hi.1]
  simp only []
  rw [if_pos]
  exact ⟨by omega, Nat.le_refl _, by rw [hs.c]; exact hs.p, by rw [hkk, hs.c]⟩

/-- The place of an element of a part of an own list. -/
theorem go_index_oq {α : Type} {e : TypeId} {k k' b off len : Nat} {fl : Bool} {l : List α} {f : α → List D} {ik : IntKind} {j : Int} {i : Nat} [hs : TSlice P t e k] (h : evalD env x = .os b off len) (h2 : evalD env y = .int ik j) (hb : lkH hp b = some ⟨k', fl, l.map f⟩) (hj : j = (i : Int))
    (hd : okDst n (some s) = true) (hkk : k' = k) (hi : i < len ∧ off + len ≤ l.length) (hc : ∀ (_ : off + i < l.length), K .normal ⟨(s, (.op b (off + i) 0)) :: env, hp, nx, n⟩) : evOp P (.indexAddr t x y) id (some s) ⟨env, hp, nx, n⟩ K := by
  subst hj
  refine go_index_own h h2 hb hd hkk ⟨by omega, ?_⟩ ?_
  · show off + len ≤ (l.map f).length
    rw [List.length_map]; omega
  · simpa only [Int.toNat_natCast] using hc (by omega)

/-- One element appended to the part of an own list that reaches to its end. -/
theorem go_app_mapq {α : Type} {f : α → List D} {e k b b2 off len : Nat} {l : List α} {a : α} {fl2 : Bool} [hs : TSlice P t e k] (hf : ScalF f k) (h1 : evalD env x = .os b off len) (h2 : evalD env y = .os b2 0 1) (hb : lkH hp b = some ⟨k, true, l.map f⟩) (hlen : l.length = off + len) (hb2 : lkH hp b2 = some ⟨k, fl2, [f a]⟩)
    (hc1 : ((f a).all cell1) = true) (hz : zeroOK P e = true) (hby : Nat.ble (P.bytesOf e) 4096 = true) (hn : len ≤ 1000000000) (hd : okDst n (some s) = true)
    (hk : K .normal ⟨(s, .os b 0 (len + 1)) :: purgeE b env, (b, ⟨k, true, (l.drop off ++ [a]).map f⟩) :: purgeH b hp, nx, n⟩) : evOp P (.call { callee := .builtin .append, args := #[x, y], argTypes := #[t, t] }) id (some s) ⟨env, hp, nx, n⟩ K := by
  have hby' : P.bytesOf e ≤ 4096 := Nat.le_of_ble_eq_true hby
  have hap : appendD P (lkH hp) t (evalD env x) (evalD env y) = some (some b, ⟨k, true, (l.drop off ++ [a]).map f⟩) := by
    have hx : contentD (lkH hp) (.os b2 0 1) = some [f a] := by simp [contentD, hb2]
    have ho : contentD (lkH hp) (.os b off len) = some ((l.drop off).map f) := by
      simp only [contentD, hb, Option.bind_some]
      rw [if_pos (by simp [hlen])]
      rw [List.map_drop, List.take_of_length_le (by simp; omega)]
    unfold appendD
    rw [hs.u, h1, h2]
    simp only [hx, ho, Option.bind_some]
    have hmul : (len + 1) * P.bytesOf e ≤ 140737488355328 := by
      have := Nat.mul_le_mul (show len + 1 ≤ 1000000001 by omega) hby'
      omega
    have hdl : (l.drop off).length = len := by simp; omega
    rw [if_pos]
    · rw [hb]
      simp only [Option.bind_some]
      rw [if_pos]
      · have hft : flatRows [f a] = true := by
          have := flat_map hf [a]
          simpa using this
        simp [hs.c, hft]
      · refine ⟨.inl hs.c.symm, fun r hr c hc => ?_⟩
        have : ∃ a', r = f a' := by
          simp only [List.mem_append, List.mem_map, List.mem_singleton] at hr
          rcases hr with ⟨a', _, rfl⟩ | rfl
          · exact ⟨a', rfl⟩
          · exact ⟨a, rfl⟩
        obtain ⟨a', rfl⟩ := this
        exact scal1_ment (List.all_eq_true.1 (hf a').2 c hc)
    · refine ⟨by rw [hs.c]; exact hs.p, fun r hr => ?_, fun r hr c hc => ?_, by simp only [List.length_map, hdl, List.length_cons, List.length_nil]; exact hmul, by simp only [List.length_map, hdl, List.length_cons, List.length_nil]; omega, hz, by simp [kOK, hb2, hs.c]⟩
      · simp only [List.mem_singleton] at hr
        rw [hr, (hf a).1, hs.c]
      · simp only [List.mem_singleton] at hr
        subst hr
        exact List.all_eq_true.1 hc1 c hc
  refine go_append_on hap hd ?_
  have e : (⟨k, true, (l.drop off ++ [a]).map f⟩ : Blk).rows.length = len + 1 := by simp; omega
  rw [e]
  exact hk

/-- A store into an element of an own list, or into a part of it. -/
theorem go_store_om {α : Type} {b i off k k' : Nat} {v : D} {fl : Bool} {l : List α} {f : α → List D} {a : α} [hc : TCells P t k] (ha : evalD env x = .op b i off) (hv : evalD env y = v) (hb : lkH hp b = some ⟨k', fl, l.map f⟩) (hi : i < l.length) (hkn : known v = true) (hl : (cellsD v).length = k) (h1 : (cellsD v).all cell1 = true) (h2 : (cellsD v).all lite = true)
    (hfit : off + k ≤ k') (hs : spliceL (f l[i]) off (cellsD v) = f a) (hk : K .normal ⟨env, updH b ⟨k', fl, (l.set i a).map f⟩ hp, nx, n⟩) :
    evOp P (.store t x y) id none ⟨env, hp, nx, n⟩ K := by
  refine go_store (rows := (l.set i a).map f) (fl := fl) ha hv hb hkn hl h1 hfit (by simpa using hi) ?_ (by simp [h2]) hk
  show (l.map f).set i (spliceL (getRow (l.map f) i) off (cellsD v)) = _
  rw [getRow_map hi, hs, List.map_set]

/-- A cell that is itself in any memory. -/
def cellP : D → Bool
  | .int .. | .bool _ | .str _ | .sl _ | .ptr _ => true
  | _ => false
theorem pur_cellP {h : Nat → Option Blk} {m : Nat} {c : D} (hc : cellP c = true) : pur h (m + 1) c = some c := by
  cases c <;> first | (cases hc; done) | rfl
theorem finL_cells {h hX : Nat → Option Blk} {b k len : Nat} {rows : List (List D)} (hb : h b = some ⟨k, true, rows⟩) (hlen : rows.length = len) : ∀ {cs tl tr : List D} {ss : List Src}, cs.all cellP = true → finL h hX ss tl tr →
    finL h hX (cs.map (fun _ => Src.pure) ++ .blk b :: ss) (cs ++ .os b 0 len :: tl) (cs ++ .fr k rows :: tr)
  | [], _, _, _, _, ht => ⟨⟨⟨k, true, rows⟩, rows, by rw [hlen], hb, rfl, by simp⟩, ht⟩
  | c :: cs, _, _, _, hc, ht => by
    simp only [List.all_cons, Bool.and_eq_true] at hc
    exact ⟨pur_cellP (m := 63) hc.1, finL_cells hb hlen hc.2 ht⟩
theorem frsOf_cells {b : Nat} {ss : List Src} : ∀ (cs : List D), frsOf (cs.map (fun _ => Src.pure) ++ .blk b :: ss) = b :: frsOf ss
  | [] => rfl
  | c :: cs => by simp only [List.map_cons, List.cons_append, frsOf]; exact frsOf_cells cs
theorem cells_agg (cs : List D) : cellsD (.agg cs) = cs := rfl
theorem refl_agg (cs : List D) : reflE (.agg cs) = cs.all reflC := rfl
theorem isCell_cellP {c : D} (h : cellP c = true) : isCell c = true := by cases c <;> first | (cases h; done) | rfl

/-- A struct is returned whose last cell is a new list. -/
theorem fin_agf {rv : ResultVar} {cs : List D} {b k len : Nat} {rows : List (List D)} (h : resD P ⟨env, hp, nx, n⟩ rv = some (.agg (cs ++ [.os b 0 len]))) (hb : lkH hp b = some ⟨k, true, rows⟩) (hlen : rows.length = len) (hc : cs.all cellP = true) : Fin P [rv] ⟨env, hp, nx, n⟩ (.agg (cs ++ [.fr k rows])) := by
  refine .inr ⟨cs.map (fun _ => Src.pure) ++ [.blk b], [.agg (cs ++ [.os b 0 len])], [.agg (cs ++ [.fr k rows])], by simp [h], by rw [frsOf_cells]; simp [frsOf], ?_, rfl, fun _ => rfl, by simp [isCell, cellsD], ?_⟩
  · simp only [List.flatMap_cons, List.flatMap_nil, List.append_nil, cellsD]
    exact finL_cells hb hlen hc trivial
  · simp only [List.flatMap_cons, List.flatMap_nil, List.append_nil, cellsD, List.all_append, List.all_cons, List.all_nil, Bool.and_true, Bool.and_eq_true]
    exact ⟨List.all_eq_true.2 fun c h => isCell_cellP (List.all_eq_true.1 hc c h), rfl⟩
/-- With a single value. -/
theorem fin_agf2 {r1 r2 : ResultVar} {cs : List D} {b k len : Nat} {rows : List (List D)} {d2 : D} (h : resD P ⟨env, hp, nx, n⟩ r1 = some (.agg (cs ++ [.os b 0 len]))) (hb : lkH hp b = some ⟨k, true, rows⟩) (hlen : rows.length = len) (hc : cs.all cellP = true) (h2 : resD P ⟨env, hp, nx, n⟩ r2 = some d2) (hs : cellP d2 = true) :
    Fin P [r1, r2] ⟨env, hp, nx, n⟩ (.tup [.agg (cs ++ [.fr k rows]), d2]) := by
  have hd2 : cellsD d2 = [d2] := by cases d2 <;> first | (cases hs; done) | rfl
  refine .inr ⟨cs.map (fun _ => Src.pure) ++ [.blk b, .pure], [.agg (cs ++ [.os b 0 len]), d2], [.agg (cs ++ [.fr k rows]), d2], by simp [h, h2], by rw [frsOf_cells]; simp [frsOf], ?_, rfl, fun h => by simp at h, by simp [isCell, cellsD], ?_⟩
  · simp only [List.flatMap_cons, List.flatMap_nil, List.append_nil, cells_agg, hd2, List.append_assoc, List.cons_append, List.nil_append]
    exact finL_cells hb hlen hc ⟨pur_cellP (m := 63) hs, trivial⟩
  · simp only [List.flatMap_cons, List.flatMap_nil, List.append_nil, cells_agg, hd2, List.all_append, List.all_cons, List.all_nil, Bool.and_true, Bool.and_eq_true]
    exact ⟨⟨List.all_eq_true.2 fun c h => isCell_cellP (List.all_eq_true.1 hc c h), rfl⟩, isCell_cellP hs⟩
theorem fin_agf3 {r1 r2 r3 : ResultVar} {cs : List D} {b k len : Nat} {rows : List (List D)} {d2 d3 : D} (h : resD P ⟨env, hp, nx, n⟩ r1 = some (.agg (cs ++ [.os b 0 len]))) (hb : lkH hp b = some ⟨k, true, rows⟩) (hlen : rows.length = len) (hc : cs.all cellP = true) (h2 : resD P ⟨env, hp, nx, n⟩ r2 = some d2) (hs : cellP d2 = true) (h3 : resD P ⟨env, hp, nx, n⟩ r3 = some d3) (hs3 : cellP d3 = true) :
    Fin P [r1, r2, r3] ⟨env, hp, nx, n⟩ (.tup [.agg (cs ++ [.fr k rows]), d2, d3]) := by
  have hd2 : cellsD d2 = [d2] := by cases d2 <;> first | (cases hs; done) | rfl
  have hd3 : cellsD d3 = [d3] := by cases d3 <;> first | (cases hs3; done) | rfl
  refine .inr ⟨cs.map (fun _ => Src.pure) ++ [.blk b, .pure, .pure], [.agg (cs ++ [.os b 0 len]), d2, d3], [.agg (cs ++ [.fr k rows]), d2, d3], by simp [h, h2, h3], by rw [frsOf_cells]; simp [frsOf], ?_, rfl, fun h => by simp at h, by simp [isCell, cellsD], ?_⟩
  · simp only [List.flatMap_cons, List.flatMap_nil, List.append_nil, cells_agg, hd2, hd3, List.append_assoc, List.cons_append, List.nil_append]
    exact finL_cells hb hlen hc ⟨pur_cellP (m := 63) hs, pur_cellP (m := 63) hs3, trivial⟩
  · simp only [List.flatMap_cons, List.flatMap_nil, List.append_nil, cells_agg, hd2, hd3, List.all_append, List.all_cons, List.all_nil, Bool.and_true, Bool.and_eq_true]
    exact ⟨⟨List.all_eq_true.2 fun c h => isCell_cellP (List.all_eq_true.1 hc c h), rfl⟩, isCell_cellP hs, isCell_cellP hs3⟩
/-- A new list is returned. -/
theorem end_frn {α : Type} {f : α → List D} {rv : ResultVar} {b k len : Nat} {l l' : List α} (h : resD P ⟨env, hp, nx, n⟩ rv = some (.os b 0 len)) (hb : lkH hp b = some ⟨k, true, l.map f⟩) (hlen : l.length = len) (e : l = l') : finK P [rv] (.ret (.fr k (l'.map f))) .ret ⟨env, hp, nx, n⟩ := by
  subst hlen
  exact end_fr h hb e

theorem adL_cells {k : Nat} {rows : List (List D)} : ∀ {cs : List D} {m : Nat}, cs.all cellP = true → adL m (cs ++ [.fr k rows]) = (cs ++ [.os (m + cs.length) 0 rows.length], [(m + cs.length, ⟨k, flatRows rows, rows⟩)])
  | [], m, _ => by simp [adL, adC]
  | c :: cs, m, h => by
    simp only [List.all_cons, Bool.and_eq_true] at h
    have hc : adC m c = (c, []) := by cases c <;> first | rfl | (exact absurd h.1 (by simp [cellP]))
    simp only [List.cons_append, adL, hc, adL_cells (cs := cs) (m := m + 1) h.2, List.nil_append, List.length_cons]
    rw [show m + 1 + cs.length = m + (cs.length + 1) by omega]
theorem pur_os {h : Nat → Option Blk} {b len k m : Nat} {rows : List (List D)} (hb : h b = some ⟨k, true, rows⟩) (hl : rows.length = len) : pur h (m + 1) (.os b 0 len) = some (.sl rows) := by
  simp only [pur, hb, Option.bind_some]
  rw [if_pos (by omega)]
  simp [← hl]
theorem purL_cells {h : Nat → Option Blk} {b len k : Nat} {rows : List (List D)} (hb : h b = some ⟨k, true, rows⟩) (hl : rows.length = len) : ∀ {cs : List D} {m : Nat}, cs.length + 1 < m → cs.all cellP = true → purL h m (cs ++ [.os b 0 len]) = some (cs ++ [.sl rows])
  | [], m + 2, _, _ => by simp only [List.nil_append, purL, pur_os hb hl, Option.bind_some, Option.map_some]
  | c :: cs, m + 2, hm, hs => by
    simp only [List.all_cons, Bool.and_eq_true] at hs
    simp only [List.length_cons] at hm
    simp only [List.cons_append, purL, pur_cellP (m := m) hs.1, purL_cells hb hl (cs := cs) (m := m + 1) (by omega) hs.2, Option.bind_some, Option.map_some]
  | _ :: _, 0, hm, _ => absurd hm (by simp)
  | _ :: _, 1, hm, _ => absurd hm (by simp)
  | [], 0, hm, _ => absurd hm (by simp)
  | [], 1, hm, _ => absurd hm (by simp)
/-- A struct whose last cell is an own list, handed over with others. -/
theorem purL_agf {h : Nat → Option Blk} {b len k : Nat} {rows : List (List D)} {cs ds rs : List D} (hb : h b = some ⟨k, true, rows⟩) (hl : rows.length = len) (hc : cs.all cellP = true) (hn : Nat.ble cs.length 40 = true) (hr : purL h 63 ds = some rs) :
    purL h 64 (.agg (cs ++ [.os b 0 len]) :: ds) = some (.agg (cs ++ [.sl rows]) :: rs) := by
  have hn' := Nat.le_of_ble_eq_true hn
  have e : pur h 63 (.agg (cs ++ [.os b 0 len])) = some (.agg (cs ++ [.sl rows])) := by
    show (purL h 62 _).map D.agg = _
    rw [purL_cells hb hl (by omega) hc]
    rfl
  show (pur h 63 _).bind _ = _
  rw [e]
  simp only [Option.bind_some, hr, Option.map_some]
/-- A call that returns a struct whose last cell is a new list; its arguments lead to no memory of one's own. -/
theorem go_fn_agf {α : Type} {f : α → List D} {k q : Nat} {l : List α} {cs : List D} {args : List Operand} {ts : Array TypeId} {g : FuncId} {args' : List D} (hp' : purL (lkH hp) 64 (args.map (evalD env)) = some args') (hc : Contract P g args' (.ret (.agg (cs ++ [.fr k (l.map f)])))) (hf : ScalF f k) (hcs : cs.all cellP = true) (hq : cs.length = q) (hw : Nat.ble q 31 = true)
    (hr : pureL (args.map (evalD env)) = true) (hd : okDst n (some s) = true)
    (h : K .normal ⟨(s, .agg (cs ++ [.os (id + q) 0 l.length])) :: env, (id + q, ⟨k, true, l.map f⟩) :: hp, nx, n⟩) : evOp P (.call { callee := .value (.func g), args := args.toArray, argTypes := ts }) id (some s) ⟨env, hp, nx, n⟩ K := by
  subst hq
  have hw' := Nat.le_of_ble_eq_true hw
  refine go_call_fn hp' hc (by rw [hr, Bool.true_or]) (by simp [widR, widE]; omega) hd ?_
  have e : adopt id (.agg (cs ++ [.fr k (l.map f)])) = (.agg (cs ++ [.os (id + cs.length) 0 l.length]), [(id + cs.length, ⟨k, true, l.map f⟩)]) := by
    simp [adopt, adE, adL_cells hcs, flat_map hf]
  rw [e]
  exact h
/-- The same with a single value; the struct's other cells are single values. -/
theorem go_fn_agf2 {α : Type} {f : α → List D} {k q : Nat} {l : List α} {cs : List D} {d2 : D} {args : List Operand} {ts : Array TypeId} {g : FuncId} {args' : List D} (hp' : purL (lkH hp) 64 (args.map (evalD env)) = some args') (hc : Contract P g args' (.ret (.tup [.agg (cs ++ [.fr k (l.map f)]), d2]))) (hf : ScalF f k) (hcs : cs.all cellP = true) (hq : cs.length = q) (hw : Nat.ble q 30 = true)
    (h2 : cellP d2 = true) (hr : (cs.all scal1 && scal1 d2) = true) (hd : okDst n (some s) = true)
    (h : K .normal ⟨(s, .tup [.agg (cs ++ [.os (id + q) 0 l.length]), d2]) :: env, (id + q, ⟨k, true, l.map f⟩) :: hp, nx, n⟩) : evOp P (.call { callee := .value (.func g), args := args.toArray, argTypes := ts }) id (some s) ⟨env, hp, nx, n⟩ K := by
  subst hq
  have hw' := Nat.le_of_ble_eq_true hw
  simp only [Bool.and_eq_true] at hr
  have w2 : widE d2 = 1 := by cases d2 <;> first | (cases h2; done) | rfl
  have ha2 : ∀ m, adE m d2 = (d2, []) := fun m => by cases d2 <;> first | (cases h2; done) | rfl
  have r2 : reflE d2 = true := plain_reflE (by cases d2 <;> first | (cases h2; done) | exact hr.2)
  refine go_call_fn hp' hc ?_ (by simp [widR, w2]; simp [widE]; omega) hd ?_
  · have : refless (.tup [.agg (cs ++ [.fr k (l.map f)]), d2]) = true := by
      simp only [refless, List.all_cons, List.all_nil, Bool.and_true, r2, refl_agg, List.all_append]
      rw [Bool.and_eq_true]
      refine ⟨List.all_eq_true.2 fun c hc => ?_, scalR_map hf l⟩
      have h1 := List.all_eq_true.1 hcs c hc
      have h2 := List.all_eq_true.1 hr.1 c hc
      cases c <;> first | (cases h1; done) | (cases h2; done) | rfl
    rw [this, Bool.or_true]
  have e : adopt id (.tup [.agg (cs ++ [.fr k (l.map f)]), d2]) = (.tup [.agg (cs ++ [.os (id + cs.length) 0 l.length]), d2], [(id + cs.length, ⟨k, true, l.map f⟩)]) := by
    simp only [adopt, adT, ha2]
    simp [adE, adL_cells hcs, flat_map hf]
  rw [e]
  exact h
theorem go_fn_agf3 {α : Type} {f : α → List D} {k q : Nat} {l : List α} {cs : List D} {d2 d3 : D} {args : List Operand} {ts : Array TypeId} {g : FuncId} {args' : List D} (hp' : purL (lkH hp) 64 (args.map (evalD env)) = some args') (hc : Contract P g args' (.ret (.tup [.agg (cs ++ [.fr k (l.map f)]), d2, d3]))) (hf : ScalF f k) (hcs : cs.all cellP = true) (hq : cs.length = q) (hw : Nat.ble q 29 = true)
    (h2 : cellP d2 = true) (h3 : cellP d3 = true) (hr : (cs.all scal1 && scal1 d2 && scal1 d3) = true) (hd : okDst n (some s) = true)
    (h : K .normal ⟨(s, .tup [.agg (cs ++ [.os (id + q) 0 l.length]), d2, d3]) :: env, (id + q, ⟨k, true, l.map f⟩) :: hp, nx, n⟩) : evOp P (.call { callee := .value (.func g), args := args.toArray, argTypes := ts }) id (some s) ⟨env, hp, nx, n⟩ K := by
  subst hq
  have hw' := Nat.le_of_ble_eq_true hw
  simp only [Bool.and_eq_true] at hr
  have w2 : widE d2 = 1 := by cases d2 <;> first | (cases h2; done) | rfl
  have w3 : widE d3 = 1 := by cases d3 <;> first | (cases h3; done) | rfl
  have ha2 : ∀ m, adE m d2 = (d2, []) := fun m => by cases d2 <;> first | (cases h2; done) | rfl
  have ha3 : ∀ m, adE m d3 = (d3, []) := fun m => by cases d3 <;> first | (cases h3; done) | rfl
  have r2 : reflE d2 = true := plain_reflE (by cases d2 <;> first | (cases h2; done) | exact hr.1.2)
  have r3 : reflE d3 = true := plain_reflE (by cases d3 <;> first | (cases h3; done) | exact hr.2)
  refine go_call_fn hp' hc ?_ (by simp [widR, w2, w3]; simp [widE]; omega) hd ?_
  · have : refless (.tup [.agg (cs ++ [.fr k (l.map f)]), d2, d3]) = true := by
      simp only [refless, List.all_cons, List.all_nil, Bool.and_true, r2, r3, refl_agg, List.all_append]
      rw [Bool.and_eq_true]
      refine ⟨List.all_eq_true.2 fun c hc => ?_, scalR_map hf l⟩
      have h1 := List.all_eq_true.1 hcs c hc
      have h2 := List.all_eq_true.1 hr.1.1 c hc
      cases c <;> first | (cases h1; done) | (cases h2; done) | rfl
    rw [this, Bool.or_true]
  have e : adopt id (.tup [.agg (cs ++ [.fr k (l.map f)]), d2, d3]) = (.tup [.agg (cs ++ [.os (id + cs.length) 0 l.length]), d2, d3], [(id + cs.length, ⟨k, true, l.map f⟩)]) := by
    simp only [adopt, adT, ha2, ha3]
    simp [adE, adL_cells hcs, flat_map hf]
  rw [e]
  exact h
end
end Go.Pv

/- Own lists handed over. -/
namespace Go.Pv
theorem purL_os {h : Nat → Option Blk} {b len k : Nat} {rows : List (List D)} {ds rs : List D} (hb : h b = some ⟨k, true, rows⟩) (hl : rows.length = len) (hr : purL h 63 ds = some rs) : purL h 64 (.os b 0 len :: ds) = some (.sl rows :: rs) := by
  show (pur h 63 _).bind _ = _
  rw [pur_os hb hl]
  simp only [Option.bind_some, hr, Option.map_some]
end Go.Pv

/- A whole list appended to an empty one; lists that are not empty compared with nil. -/
namespace Go.Pv
section
variable {P : Program} {K : X → St → Prop} {env : Env} {hp : Hp} {nx n id : Nat} {s : Tmp} {x y : Operand} {t : TypeId}
theorem go_app_sl {α : Type} {f : α → List D} {e k b : Nat} {l : List α} [hs : TSlice P t e k] (hf : ScalF f k) (h1 : evalD env x = .os b 0 0) (h2 : evalD env y = .sl (l.map f)) (hb : lkH hp b = some ⟨0, true, []⟩)
    (hc1 : ∀ a, ((f a).all cell1) = true) (hz : zeroOK P e = true) (hby : Nat.ble (P.bytesOf e) 4096 = true) (hn : l.length ≤ 1000000000) (hd : okDst n (some s) = true)
    (hk : K .normal ⟨(s, .os b 0 l.length) :: purgeE b env, (b, ⟨k, true, l.map f⟩) :: purgeH b hp, nx, n⟩) : evOp P (.call { callee := .builtin .append, args := #[x, y], argTypes := #[t, t] }) id (some s) ⟨env, hp, nx, n⟩ K := by
  have hby' : P.bytesOf e ≤ 4096 := Nat.le_of_ble_eq_true hby
  have hap : appendD P (lkH hp) t (evalD env x) (evalD env y) = some (some b, ⟨k, true, l.map f⟩) := by
    have ho : contentD (lkH hp) (.os b 0 0) = some [] := by simp [contentD, hb]
    unfold appendD
    rw [hs.u, h1, h2]
    have hx : contentD (lkH hp) (.sl (l.map f)) = some (l.map f) := rfl
    simp only [hx, ho, Option.bind_some]
    have hmul : l.length * P.bytesOf e ≤ 140737488355328 := by
      have := Nat.mul_le_mul hn hby'
      omega
    rw [if_pos]
    · rw [hb]
      simp only [Option.bind_some]
      rw [if_pos]
      · simp [hs.c, flat_map hf]
      · refine ⟨.inr (by trivial), fun r hr c hc => ?_⟩
        simp only [List.nil_append] at hr
        obtain ⟨a, _, rfl⟩ := List.mem_map.1 hr
        exact scal1_ment (List.all_eq_true.1 (hf a).2 c hc)
    · refine ⟨by rw [hs.c]; exact hs.p, fun r hr => ?_, fun r hr c hc => ?_, by simpa using hmul, by simp; omega, hz, rfl⟩
      · obtain ⟨a, _, rfl⟩ := List.mem_map.1 hr
        rw [(hf a).1, hs.c]
      · obtain ⟨a, _, rfl⟩ := List.mem_map.1 hr
        exact List.all_eq_true.1 (hc1 a) c hc
  refine go_append_on hap hd ?_
  have e : (⟨k, true, l.map f⟩ : Blk).rows.length = l.length := by simp
  rw [e]
  exact hk

theorem go_nileq_sl {α : Type} {f : α → List D} {e k : Nat} {l : List α} {r : TypeId} [hs : TSlice P t e k] (h : evalD env x = .sl (l.map f)) (hne : 0 < l.length) (hd : okDst n (some s) = true) (hk : K .normal ⟨(s, .bool false) :: env, hp, nx, n⟩) :
    evOp P (.binOp .eql t x (.const (.slice none 0 0)) r) id (some s) ⟨env, hp, nx, n⟩ K := by
  refine go_nilcmp (bs := [false]) ?_ rfl ?_ rfl hd ?_
  · simp only [op0, h]; rfl
  · simp only [nilB, nilT, hs.u, h, nilS]
    have : (l.map f).isEmpty = false := by
      cases l with
      | nil => simp at hne
      | cons a l => rfl
    rw [this]; rfl
  · intro b hb
    simp only [List.mem_singleton] at hb
    subst hb
    exact hk
end
end Go.Pv

/- Structs whose last cell is a nil list, as results. -/
namespace Go.Pv
section
variable {P : Program} {K : X → St → Prop} {env : Env} {hp : Hp} {nx n id : Nat}
theorem finL_nils {h hX : Nat → Option Blk} {k : Nat} : ∀ {cs tl tr : List D} {ss : List Src}, cs.all cellP = true → finL h hX ss tl tr →
    finL h hX (cs.map (fun _ => Src.pure) ++ .nil :: ss) (cs ++ .nilsl :: tl) (cs ++ .fr k [] :: tr)
  | [], _, _, _, _, ht => ⟨⟨rfl, k, rfl⟩, ht⟩
  | c :: cs, _, _, _, hc, ht => by
    simp only [List.all_cons, Bool.and_eq_true] at hc
    exact ⟨pur_cellP (m := 63) hc.1, finL_nils hc.2 ht⟩
theorem frsOf_nils {ss : List Src} : ∀ (cs : List D), frsOf (cs.map (fun _ => Src.pure) ++ .nil :: ss) = frsOf ss
  | [] => rfl
  | c :: cs => by simp only [List.map_cons, List.cons_append, frsOf]; exact frsOf_nils cs
theorem fin_agn3 {r1 r2 r3 : ResultVar} {cs : List D} {k : Nat} {d2 d3 : D} (h : resD P ⟨env, hp, nx, n⟩ r1 = some (.agg (cs ++ [.nilsl]))) (hc : cs.all cellP = true) (h2 : resD P ⟨env, hp, nx, n⟩ r2 = some d2) (hs : cellP d2 = true) (h3 : resD P ⟨env, hp, nx, n⟩ r3 = some d3) (hs3 : cellP d3 = true) :
    Fin P [r1, r2, r3] ⟨env, hp, nx, n⟩ (.tup [.agg (cs ++ [.fr k []]), d2, d3]) := by
  have hd2 : cellsD d2 = [d2] := by cases d2 <;> first | (cases hs; done) | rfl
  have hd3 : cellsD d3 = [d3] := by cases d3 <;> first | (cases hs3; done) | rfl
  refine .inr ⟨cs.map (fun _ => Src.pure) ++ [.nil, .pure, .pure], [.agg (cs ++ [.nilsl]), d2, d3], [.agg (cs ++ [.fr k []]), d2, d3], by simp [h, h2, h3], by rw [frsOf_nils]; simp [frsOf], ?_, rfl, fun h => by simp at h, by simp [isCell, cellsD], ?_⟩
  · simp only [List.flatMap_cons, List.flatMap_nil, List.append_nil, cells_agg, hd2, hd3, List.append_assoc, List.cons_append, List.nil_append]
    exact finL_nils hc ⟨pur_cellP (m := 63) hs, pur_cellP (m := 63) hs3, trivial⟩
  · simp only [List.flatMap_cons, List.flatMap_nil, List.append_nil, cells_agg, hd2, hd3, List.all_append, List.all_cons, List.all_nil, Bool.and_true, Bool.and_eq_true]
    exact ⟨⟨List.all_eq_true.2 fun c h => isCell_cellP (List.all_eq_true.1 hc c h), rfl⟩, isCell_cellP hs, isCell_cellP hs3⟩
/-- Two structs whose last cells are own lists, handed over. -/
theorem purL_agf_agf {h : Nat → Option Blk} {b len k b2 len2 k2 : Nat} {rows rows2 : List (List D)} {cs cs2 : List D} (hb : h b = some ⟨k, true, rows⟩) (hl : rows.length = len) (hc : cs.all cellP = true) (hn : Nat.ble cs.length 40 = true) (hb2 : h b2 = some ⟨k2, true, rows2⟩) (hl2 : rows2.length = len2) (hc2 : cs2.all cellP = true) (hn2 : Nat.ble cs2.length 40 = true) :
    purL h 64 [.agg (cs ++ [.os b 0 len]), .agg (cs2 ++ [.os b2 0 len2])] = some [.agg (cs ++ [.sl rows]), .agg (cs2 ++ [.sl rows2])] := by
  have hn2' := Nat.le_of_ble_eq_true hn2
  refine purL_agf hb hl hc hn ?_
  have e : pur h 62 (.agg (cs2 ++ [.os b2 0 len2])) = some (.agg (cs2 ++ [.sl rows2])) := by
    show (purL h 61 _).map D.agg = _
    rw [purL_cells hb2 hl2 (by omega) hc2]
    rfl
  show (pur h 62 _).bind _ = _
  rw [e]
  rfl
/-- A struct whose last cell is an own list, handed over behind another value. -/
theorem purL_agf2 {h : Nat → Option Blk} {b len k : Nat} {rows : List (List D)} {d d' : D} {cs ds rs : List D} (hd : pur h 63 d = some d') (hb : h b = some ⟨k, true, rows⟩) (hl : rows.length = len) (hc : cs.all cellP = true) (hn : Nat.ble cs.length 40 = true) (hr : purL h 62 ds = some rs) :
    purL h 64 (d :: .agg (cs ++ [.os b 0 len]) :: ds) = some (d' :: .agg (cs ++ [.sl rows]) :: rs) := by
  have hn' := Nat.le_of_ble_eq_true hn
  have e : pur h 62 (.agg (cs ++ [.os b 0 len])) = some (.agg (cs ++ [.sl rows])) := by
    show (purL h 61 _).map D.agg = _
    rw [purL_cells hb hl (by omega) hc]
    rfl
  have e2 : purL h 63 (.agg (cs ++ [.os b 0 len]) :: ds) = some (.agg (cs ++ [.sl rows]) :: rs) := by
    show (pur h 62 _).bind _ = _
    rw [e]
    simp only [Option.bind_some, hr, Option.map_some]
  show (pur h 63 d).bind _ = _
  rw [hd]
  simp only [Option.bind_some, e2, Option.map_some]
end
end Go.Pv

/- A call that hands over own memory and returns a struct whose last cell is a new list. -/
namespace Go.Pv
section
variable {P : Program} {K : X → St → Prop} {env : Env} {hp : Hp} {nx n id : Nat} {s : Tmp}
theorem go_fn_agfr {α : Type} {f : α → List D} {k q : Nat} {l : List α} {cs : List D} {args : List Operand} {ts : Array TypeId} {g : FuncId} {args' : List D} (hp' : purL (lkH hp) 64 (args.map (evalD env)) = some args') (hc : Contract P g args' (.ret (.agg (cs ++ [.fr k (l.map f)])))) (hf : ScalF f k) (hcs : cs.all cellP = true) (hq : cs.length = q) (hw : Nat.ble q 31 = true)
    (hr : cs.all scal1 = true) (hd : okDst n (some s) = true)
    (h : K .normal ⟨(s, .agg (cs ++ [.os (id + q) 0 l.length])) :: env, (id + q, ⟨k, true, l.map f⟩) :: hp, nx, n⟩) : evOp P (.call { callee := .value (.func g), args := args.toArray, argTypes := ts }) id (some s) ⟨env, hp, nx, n⟩ K := by
  subst hq
  have hw' := Nat.le_of_ble_eq_true hw
  refine go_call_fn hp' hc ?_ (by simp [widR, widE]; omega) hd ?_
  · have : refless (.agg (cs ++ [.fr k (l.map f)])) = true := by
      show (cs ++ [D.fr k (l.map f)]).all reflC = true
      rw [List.all_append, Bool.and_eq_true]
      refine ⟨List.all_eq_true.2 fun c hc => ?_, by simp only [List.all_cons, List.all_nil, Bool.and_true]; exact scalR_map hf l⟩
      have h1 := List.all_eq_true.1 hcs c hc
      have h2 := List.all_eq_true.1 hr c hc
      cases c <;> first | (cases h1; done) | (cases h2; done) | rfl
    rw [this, Bool.or_true]
  have e : adopt id (.agg (cs ++ [.fr k (l.map f)])) = (.agg (cs ++ [.os (id + cs.length) 0 l.length]), [(id + cs.length, ⟨k, true, l.map f⟩)]) := by
    simp [adopt, adE, adL_cells hcs, flat_map hf]
  rw [e]
  exact h
end
end Go.Pv

/- Scopes and labels. -/
namespace Go.Pv
section
variable {P : Program} {E : St → St → Prop} {K : X → St → Prop} {st : St}
theorem go_scope {c : Code} (h : evG E P c K st) : evG E P (.scope c) K st := h
theorem go_label {l : Nat} (h : K .normal st) : evG E P (.label l) K st := h
end
section
variable {P : Program} {E : St → St → Prop} {K : X → St → Prop} {env : Env} {hp : Hp} {nx n id : Nat} {s : Tmp} {x y u v : Operand} {t : TypeId}
theorem go_bs4_int {e : Nat} {z : D} {k k2 k3 k4 : IntKind} {a b c d : Int} [hs : TSlice P t e 1] [hz : TZero P e z] (h1 : evalD env x = .int k a) (h2 : evalD env y = .int k2 b) (h3 : evalD env u = .int k3 c) (h4 : evalD env v = .int k4 d) (hzl : (cellsD z).length = 1) (hd : okDst n (some s) = true)
    (hk : K .normal ⟨(s, .os id 0 4) :: env, (id, ⟨1, true, [[.int k a], [.int k2 b], [.int k3 c], [.int k4 d]]⟩) :: hp, nx, n⟩) : evOp P (.buildSlice t 4 #[(0, x), (1, y), (2, u), (3, v)]) id (some s) ⟨env, hp, nx, n⟩ K := by
  have ho : op1 P (evalD env) (.buildSlice t 4 #[(0, x), (1, y), (2, u), (3, v)]) = some (false, ⟨1, true, [[.int k a], [.int k2 b], [.int k3 c], [.int k4 d]]⟩) := by
    simp only [op1, hs.u, hz.h, Option.bind_some]
    rw [if_neg (by decide), if_pos ⟨hz.k, by rw [hzl, hs.c], by rw [hs.c]; decide, by rw [hs.c]; decide⟩]
    simp only [List.map_cons, List.map_nil, h1, h2, h3, h4, hs.c]
    rfl
  unfold evOp
  simp only [op0, ho]
  exact ⟨hd, hk⟩
end
end Go.Pv

/- A struct with an own list, handed over behind two values. -/
namespace Go.Pv
theorem purL_agf3 {h : Nat → Option Blk} {b len k : Nat} {rows : List (List D)} {d d' u u' : D} {cs ds rs : List D} (hd : pur h 63 d = some d') (hu : pur h 62 u = some u') (hb : h b = some ⟨k, true, rows⟩) (hl : rows.length = len) (hc : cs.all cellP = true) (hn : Nat.ble cs.length 40 = true) (hr : purL h 61 ds = some rs) :
    purL h 64 (d :: u :: .agg (cs ++ [.os b 0 len]) :: ds) = some (d' :: u' :: .agg (cs ++ [.sl rows]) :: rs) := by
  have hn' := Nat.le_of_ble_eq_true hn
  have e : pur h 61 (.agg (cs ++ [.os b 0 len])) = some (.agg (cs ++ [.sl rows])) := by
    show (purL h 60 _).map D.agg = _
    rw [purL_cells hb hl (by omega) hc]
    rfl
  have e2 : purL h 62 (.agg (cs ++ [.os b 0 len]) :: ds) = some (.agg (cs ++ [.sl rows]) :: rs) := by
    show (pur h 61 _).bind _ = _
    rw [e]
    simp only [Option.bind_some, hr, Option.map_some]
  have e3 : purL h 63 (u :: .agg (cs ++ [.os b 0 len]) :: ds) = some (u' :: .agg (cs ++ [.sl rows]) :: rs) := by
    show (pur h 62 u).bind _ = _
    rw [hu]
    simp only [Option.bind_some, e2, Option.map_some]
  show (pur h 63 d).bind _ = _
  rw [hd]
  simp only [Option.bind_some, e3, Option.map_some]
end Go.Pv

/- Lists of three and four structs; parts of own lists; calls that write into an own list. -/
namespace Go.Pv
class TArrE (P : Program) (t : TypeId) (len : outParam Nat) (e : outParam TypeId) (k : outParam Nat) : Prop where
  u : P.underlying t = some (.array len e)
  c : P.cellsOf e = k
  p : 0 < k
section
variable {P : Program} {E : St → St → Prop} {K : X → St → Prop} {env : Env} {hp : Hp} {nx n id : Nat} {s : Tmp} {x y u v f : Operand} {t : TypeId}

theorem go_bs3_agg {e k : Nat} {z : D} {c1 c2 c3 : List D} {fl : Bool} [hs : TSlice P t e k] [hz : TZero P e z] (h1 : evalD env x = .agg c1) (h2 : evalD env y = .agg c2) (h3 : evalD env u = .agg c3) (hzl : (cellsD z).length = k) (hl1 : c1.length = k) (hl2 : c2.length = k) (hl3 : c3.length = k)
    (hfl : flatRows [c1, c2, c3] = fl) (hsm : Nat.ble k 1000000 = true) (hd : okDst n (some s) = true)
    (hk : K .normal ⟨(s, .os id 0 3) :: env, (id, ⟨k, fl, [c1, c2, c3]⟩) :: hp, nx, n⟩) : evOp P (.buildSlice t 3 #[(0, x), (1, y), (2, u)]) id (some s) ⟨env, hp, nx, n⟩ K := by
  subst hfl
  have hsm := Nat.le_of_ble_eq_true hsm
  have ho : op1 P (evalD env) (.buildSlice t 3 #[(0, x), (1, y), (2, u)]) = some (false, ⟨k, flatRows [c1, c2, c3], [c1, c2, c3]⟩) := by
    simp only [op1, hs.u, hz.h, Option.bind_some]
    rw [if_neg (by decide), if_pos ⟨hz.k, by rw [hzl, hs.c], by rw [hs.c]; exact hs.p, by rw [hs.c]; omega⟩]
    simp only [List.map_cons, List.map_nil, h1, h2, h3, fillRows, List.replicate, List.length_cons, List.length_nil, List.length_set, cellsD]
    rw [if_pos ⟨rfl, by rw [hl1, hs.c], by omega⟩, if_pos ⟨rfl, by rw [hl2, hs.c], by omega⟩, if_pos ⟨rfl, by rw [hl3, hs.c], by omega⟩]
    simp [hs.c]
  unfold evOp
  simp only [op0, ho]
  exact ⟨hd, hk⟩

theorem go_bs4_agg {e k : Nat} {z : D} {c1 c2 c3 c4 : List D} {fl : Bool} [hs : TSlice P t e k] [hz : TZero P e z] (h1 : evalD env x = .agg c1) (h2 : evalD env y = .agg c2) (h3 : evalD env u = .agg c3) (h4 : evalD env v = .agg c4) (hzl : (cellsD z).length = k) (hl1 : c1.length = k) (hl2 : c2.length = k) (hl3 : c3.length = k) (hl4 : c4.length = k)
    (hfl : flatRows [c1, c2, c3, c4] = fl) (hsm : Nat.ble k 1000000 = true) (hd : okDst n (some s) = true)
    (hk : K .normal ⟨(s, .os id 0 4) :: env, (id, ⟨k, fl, [c1, c2, c3, c4]⟩) :: hp, nx, n⟩) : evOp P (.buildSlice t 4 #[(0, x), (1, y), (2, u), (3, v)]) id (some s) ⟨env, hp, nx, n⟩ K := by
  subst hfl
  have hsm := Nat.le_of_ble_eq_true hsm
  have ho : op1 P (evalD env) (.buildSlice t 4 #[(0, x), (1, y), (2, u), (3, v)]) = some (false, ⟨k, flatRows [c1, c2, c3, c4], [c1, c2, c3, c4]⟩) := by
    simp only [op1, hs.u, hz.h, Option.bind_some]
    rw [if_neg (by decide), if_pos ⟨hz.k, by rw [hzl, hs.c], by rw [hs.c]; exact hs.p, by rw [hs.c]; omega⟩]
    simp only [List.map_cons, List.map_nil, h1, h2, h3, h4, fillRows, List.replicate, List.length_cons, List.length_nil, List.length_set, cellsD]
    rw [if_pos ⟨rfl, by rw [hl1, hs.c], by omega⟩, if_pos ⟨rfl, by rw [hl2, hs.c], by omega⟩, if_pos ⟨rfl, by rw [hl3, hs.c], by omega⟩, if_pos ⟨rfl, by rw [hl4, hs.c], by omega⟩]
    simp [hs.c]
  unfold evOp
  simp only [op0, ho]
  exact ⟨hd, hk⟩

/-- An element of an array that is a value. -/
theorem go_index_agg {len k : Nat} {e : TypeId} {sh' : Sh} {cs : List D} {ik : IntKind} {i : Int} {d : D} [ha : TArrE P t len e k] [hs : TSh P e sh'] (h : evalD env x = .agg cs) (h2 : evalD env y = .int ik i) (hd : okDst n (some s) = true) (hi : 0 ≤ i ∧ i < len)
    (hc : fromCells sh' (cs.drop (i.toNat * k)) = some d) (hk : K .normal ⟨(s, d) :: env, hp, nx, n⟩) : evOp P (.index t x y) id (some s) ⟨env, hp, nx, n⟩ K := by
  rw [evOp_index]
  refine ⟨d, ?_, hd, hk⟩
  rw [h, h2]
  simp only [indexD, ha.u]
  rw [if_pos ⟨hi.1, hi.2, by rw [ha.c]; exact ha.p⟩, ha.c, hs.h]
  exact hc

/-- The first elements of a list of one's own. -/
theorem go_take_os {e : TypeId} {k b off len : Nat} {blk : Blk} {ik : IntKind} {i : Int} [hs : TSlice P t e k] (h : evalD env x = .os b off len) (h2 : evalD env y = .int ik i) (hb : lkH hp b = some blk) (hkk : blk.k = k) (hd : okDst n (some s) = true)
    (hi : 0 ≤ i ∧ i ≤ len) (hk : K .normal ⟨(s, .os b off i.toNat) :: env, hp, nx, n⟩) : evOp P (.slice t x none (some y) none) id (some s) ⟨env, hp, nx, n⟩ K := by
  rw [evOp_slice]
  refine ⟨.os b off i.toNat, ?_, hd, hk⟩
  simp only [Option.map_none, Option.map_some, h, h2, sliceD, hs.u, boundD, hb]
  rw [if_pos hi.1]
  simp only []
  rw [if_pos]
  · simp
  · exact ⟨by omega, by omega, by rw [hs.c]; exact hs.p, by rw [hkk, hs.c]⟩

/-- A region that has a call in it that writes into an own list. -/
theorem go_regionM {i : Nat} {l : List Oper} (h : evOpsM P l l nx ⟨env, hp, nx, n⟩ K) : evG E P (.region i l.toArray false) K ⟨env, hp, nx, n⟩ := .inr h

def kOpsM (P : Program) (all rest : List Oper) (id : Nat) (K : X → St → Prop) : X → St → Prop
  | .normal, st => evOpsM P all rest id st K
  | x, st => K x st
theorem goM_op {all rest : List Oper} {dst : Option Tmp} {op : Op} {ty : TypeId} {pos : String} {af : Array Edge} (h : evOp P op id dst ⟨env, hp, nx, n⟩ (kOpsM P all rest (id + 32) K)) :
    evOpsM P all ({ dst := dst, op := op, type := ty, pos := pos, after := af, guard := none } :: rest) id ⟨env, hp, nx, n⟩ K := .inl (evOp_mono (fun x st hx => by cases x <;> exact hx) h)
theorem goM_next {all rest : List Oper} (h : evOpsM P all rest id ⟨env, hp, nx, n⟩ K) : kOpsM P all rest id K .normal ⟨env, hp, nx, n⟩ := h
theorem goM_nil {all : List Oper} (h : K .normal ⟨env, hp, id, n⟩) : evOpsM P all [] id ⟨env, hp, nx, n⟩ K := h
theorem goM_call {all rest : List Oper} {dst : Option Tmp} {ty : TypeId} {pos : String} {af : Array Edge} {args : List Operand} {ts : Array TypeId} {g : FuncId} {ds args' : List D} {b : Nat} {blk blk' : Blk} {r r' : D} (ha : args.map (evalD env) = ds)
    (hb : lkH hp b = some blk) (hs : scalR blk.rows = true) (hin : inL b ds = some args') (hos : hasOs b ds = true)
    (hc : ContractM P g args' blk r blk') (hr : outR b r = r') (hd : okDst n dst = true) (h : evOpsM P all rest (id + 32) ⟨putE dst r' env, updH b blk' hp, nx, n⟩ K) :
    evOpsM P all ({ dst := dst, op := .call { callee := .value (.func g), args := args.toArray, argTypes := ts }, type := ty, pos := pos, after := af, guard := none } :: rest) id ⟨env, hp, nx, n⟩ K := by
  subst ha hr
  refine .inr ⟨rfl, .inl ?_⟩
  exact ⟨b, blk, args', r, blk', hb, hs, by simpa using hin, by simpa using hos, hc, hd, h⟩
/-- 'clear' of a part of an own list. -/
theorem goM_clear {all rest : List Oper} {dst : Option Tmp} {ty : TypeId} {pos : String} {af : Array Edge} {x : Operand} {t e : TypeId} {k b off len k' : Nat} {rows : List (List D)} {fl : Bool} [hs : TSlice P t e k] (ha : evalD env x = .os b off len)
    (hb : lkH hp b = some ⟨k', fl, rows⟩) (hc : clrOK P e k' = true) (hsr : scalR rows = true) (hle : off + len ≤ rows.length) (hd : okDst n dst = true) (h : evOpsM P all rest (id + 32) ⟨putE dst (.tup []) env, updH b ⟨k', fl, rows.take off⟩ hp, nx, n⟩ K) :
    evOpsM P all ({ dst := dst, op := .call { callee := .builtin .clear, args := #[x], argTypes := #[t] }, type := ty, pos := pos, after := af, guard := none } :: rest) id ⟨env, hp, nx, n⟩ K :=
  .inr ⟨rfl, .inr ⟨x, t, e, b, off, len, ⟨k', fl, rows⟩, rfl, rfl, hs.u, hc, ha, hb, hsr, hle, hd, h⟩⟩
end
end Go.Pv

/- The least and the greatest of three. -/
namespace Go.Pv
section
variable {P : Program} {K : X → St → Prop} {env : Env} {hp : Hp} {nx n id : Nat} {s : Tmp} {x y z : Operand}
theorem go_min3 {k k' k2 : IntKind} {a b c : Int} {ts : Array TypeId} (h1 : evalD env x = .int k a) (h2 : evalD env y = .int k' b) (h3 : evalD env z = .int k2 c) (hd : okDst n (some s) = true) (hk : K .normal ⟨(s, .int k (min (min a b) c)) :: env, hp, nx, n⟩) : evOp P (.call { callee := .builtin .min, args := #[x, y, z], argTypes := ts }) id (some s) ⟨env, hp, nx, n⟩ K := by
  have h := evOp_min (P := P) (K := K) (env := env) (hp := hp) (nx := nx) (n := n) (id := id) (dst := some s) (x := x) (xs := [y, z]) (ts := ts)
  rw [show (#[x, y, z] : Array Operand) = (x :: [y, z]).toArray from rfl, h]
  refine ⟨.int k (min (min a b) c), ?_, hd, hk⟩
  simp only [List.map_cons, List.map_nil, foldD, h1, h2, h3, min2D, Option.bind_some, Option.some.injEq, D.int.injEq, true_and]
  split <;> split <;> omega
theorem go_max3 {k k' k2 : IntKind} {a b c : Int} {ts : Array TypeId} (h1 : evalD env x = .int k a) (h2 : evalD env y = .int k' b) (h3 : evalD env z = .int k2 c) (hd : okDst n (some s) = true) (hk : K .normal ⟨(s, .int k (max (max a b) c)) :: env, hp, nx, n⟩) : evOp P (.call { callee := .builtin .max, args := #[x, y, z], argTypes := ts }) id (some s) ⟨env, hp, nx, n⟩ K := by
  have h := evOp_max (P := P) (K := K) (env := env) (hp := hp) (nx := nx) (n := n) (id := id) (dst := some s) (x := x) (xs := [y, z]) (ts := ts)
  rw [show (#[x, y, z] : Array Operand) = (x :: [y, z]).toArray from rfl, h]
  refine ⟨.int k (max (max a b) c), ?_, hd, hk⟩
  simp only [List.map_cons, List.map_nil, foldD, h1, h2, h3, max2D, Option.bind_some, Option.some.injEq, D.int.injEq, true_and]
  split <;> split <;> omega
end
end Go.Pv
namespace Go.Pv
section
variable {P : Program} {K : X → St → Prop} {env : Env} {hp : Hp} {nx n id : Nat} {s : Tmp} {x : Operand} {t t' : TypeId}
/-- A number, made an int. -/
theorem go_conv64 {k0 k : IntKind} {a : Int} [h0 : TInt P t k0] [h1 : TInt P t' .i64] (h : evalD env x = .int k a) (hd : okDst n (some s) = true) (hr : -9223372036854775808 ≤ a ∧ a ≤ 9223372036854775807) (hk : K .normal ⟨(s, .int .i64 a) :: env, hp, nx, n⟩) : evOp P (.convert t t' x) id (some s) ⟨env, hp, nx, n⟩ K := by
  rw [evOp_convert]
  refine ⟨.int .i64 a, ?_, hd, hk⟩
  rw [h]
  simp only [convD, h1.h, h0.h, Option.isSome_some, if_true]
  rw [wrap64 hr]
end
end Go.Pv

/- The root of a small number, rounded, made whole: it is small. Plain. -/
namespace Go.Pv.Sq
open Ieee

theorem binade_eq : double.binade = 4503599627370496 := by decide
theorem inf_eq : double.infRung = 9218868437227405312 := by decide
theorem sw_eq : double.signWeight = 9223372036854775808 := by decide
theorem lp_eq : double.leastPlace = -1074 := by decide
theorem read_lo {r : Nat} (h : r < 4503599627370496) : double.read r = .number false r (-1074) := by
  unfold Format.read
  rw [binade_eq, sw_eq, lp_eq]
  simp only
  rw [Nat.mod_eq_of_lt (show r < 9223372036854775808 by omega), if_pos h, Nat.div_eq_of_lt (by omega)]
  rfl
theorem read_hi {r : Nat} (h1 : 4503599627370496 ≤ r) (h2 : r < 9218868437227405312) : double.read r = .number false (4503599627370496 + r % 4503599627370496) (-1074 + (r / 4503599627370496 - 1 : Nat)) := by
  unfold Format.read
  rw [binade_eq, sw_eq, lp_eq, inf_eq]
  simp only
  rw [Nat.mod_eq_of_lt (show r < 9223372036854775808 by omega), if_neg (by omega), if_pos h2, Nat.div_eq_of_lt (by omega)]
  rfl
theorem log2_bd {n : Nat} (h : n ≠ 0) : 2 ^ n.log2 ≤ n ∧ n < 2 ^ (n.log2 + 1) := ⟨Nat.log2_self_le h, Nat.lt_log2_self⟩
theorem cut_even_le {n drop k : Nat} (h : n < 2 ^ (drop + k)) : Toward.even.cut false n drop ≤ 2 ^ k := by
  unfold Toward.cut
  simp only
  generalize hg : (1 <<< min drop (n.log2 + 2) : Nat) = gap
  rw [Nat.one_shiftLeft] at hg
  have hlow : n / gap < 2 ^ k := by
    rw [← hg]
    by_cases hd : drop ≤ n.log2 + 2
    · rw [Nat.min_eq_left hd]
      rw [Nat.div_lt_iff_lt_mul (Nat.two_pow_pos _), Nat.mul_comm, ← Nat.pow_add]
      exact h
    · rw [Nat.min_eq_right (by omega)]
      rw [Nat.div_eq_of_lt]
      · exact Nat.two_pow_pos _
      · by_cases h0 : n = 0
        · subst h0; exact Nat.two_pow_pos _
        · exact Nat.lt_of_lt_of_le (log2_bd h0).2 (Nat.pow_le_pow_right (by omega) (by omega))
  have : ∀ b : Bool, b.toNat ≤ 1 := fun b => by cases b <;> decide
  have := this (decide (gap < 2 * (n % gap)) || gap == 2 * (n % gap) && n / gap % 2 == 1)
  omega
theorem nearest_bd {mag : Nat} {place last : Int} (h0 : mag ≠ 0) (hl : last = place + mag.log2 - 52) (h1 : -1074 ≤ last) (h2 : last ≤ 900) :
    ∃ kept : Nat, kept ≤ 9007199254740992 ∧ double.nearest false mag place = (last + 1074).toNat * 4503599627370496 + kept := by
  unfold Format.nearest
  rw [if_neg h0]
  have hm : max (place + (mag.log2 : Int) - (double.fractionBits : Nat)) double.leastPlace = last := by
    rw [lp_eq]
    show max (place + (mag.log2 : Int) - ((52 : Nat) : Int)) (-1074) = last
    omega
  simp only [hm]
  rw [binade_eq, inf_eq, lp_eq]
  have hk : Toward.even.cut false (mag <<< (place - last).toNat) (last - place).toNat ≤ 2 ^ 53 := by
    apply cut_even_le
    rw [Nat.shiftLeft_eq]
    have := (log2_bd h0).2
    by_cases hp : last ≤ place
    · have e1 : (last - place).toNat = 0 := by omega
      have e2 : mag.log2 + 1 + (place - last).toNat = 53 := by omega
      rw [e1, Nat.zero_add, ← e2, Nat.pow_add]
      exact Nat.mul_lt_mul_of_pos_right this (Nat.two_pow_pos _)
    · have e1 : (place - last).toNat = 0 := by omega
      have e2 : (last - place).toNat + 53 = mag.log2 + 1 := by omega
      rw [e1, e2, Nat.pow_zero, Nat.mul_one]
      exact this
  generalize Toward.even.cut false (mag <<< (place - last).toNat) (last - place).toNat = kept at hk
  have hk' : kept ≤ 9007199254740992 := by simpa using hk
  refine ⟨kept, hk', ?_⟩
  rw [show (last - -1074).toNat = (last + 1074).toNat by omega, Nat.min_eq_left (by
    have : (last + 1074).toNat ≤ 1974 := by omega
    generalize (last + 1074).toNat = u at this ⊢
    omega)]
  simp [Format.word]
/-- Made whole, towards zero. -/
theorem toInt_bd {m : Nat} {p : Int} (hm : m < 9007199254740992) (hp : p ≤ -29) : ∃ n : Nat, (Datum.number false m p).toInt .zero = some (n : Int) ∧ n ≤ 16777216 := by
  refine ⟨Toward.zero.cut false (m <<< p.toNat) (-p).toNat, ?_, ?_⟩
  · simp [Datum.toInt, Datum.integral, signed]
  · have e : p.toNat = 0 := by omega
    rw [e, Nat.shiftLeft_zero]
    unfold Toward.cut
    simp only [Bool.toNat_false, Nat.add_zero]
    rw [Nat.one_shiftLeft]
    by_cases hd : (-p).toNat ≤ m.log2 + 2
    · rw [Nat.min_eq_left hd]
      have : 2 ^ 29 ≤ 2 ^ (-p).toNat := Nat.pow_le_pow_right (by omega) (by omega)
      have h2 := Nat.div_le_div_left (a := m) this (by decide)
      have h3 : m / 2 ^ 29 ≤ 16777216 := by omega
      omega
    · rw [Nat.min_eq_right (by omega)]
      rw [Nat.div_eq_of_lt]
      · omega
      · by_cases h0 : m = 0
        · subst h0; exact Nat.two_pow_pos _
        · exact Nat.lt_of_lt_of_le (log2_bd h0).2 (Nat.pow_le_pow_right (by omega) (by omega))
theorem back_bd {mag : Nat} {place : Int} (hm : mag.log2 ≤ 56) (h1 : -900 ≤ place) (h2 : place ≤ -34) :
    ∃ n : Nat, (double.read (double.nearest false mag place)).toInt .zero = some (n : Int) ∧ n ≤ 16777216 := by
  by_cases h0 : mag = 0
  · subst h0
    have : double.nearest false 0 place = 0 := by simp [Format.nearest, Format.word]
    rw [this, read_lo (by decide)]
    exact toInt_bd (by decide) (by decide)
  · obtain ⟨kept, hk, he⟩ := nearest_bd (last := place + mag.log2 - 52) h0 rfl (by omega) (by omega)
    rw [he]
    generalize hr : (place + (mag.log2 : Int) - 52 + 1074).toNat * 4503599627370496 + kept = r
    have hr' : r ≤ 1046 * 4503599627370496 := by
      have : (place + (mag.log2 : Int) - 52 + 1074).toNat ≤ 1044 := by omega
      have := Nat.mul_le_mul_right 4503599627370496 this
      omega
    by_cases hlo : r < 4503599627370496
    · rw [read_lo hlo]
      exact toInt_bd (by omega) (by decide)
    · rw [read_hi (by omega) (by omega)]
      exact toInt_bd (by omega) (by omega)
theorem rootFrom_sq (n : Nat) : ∀ (todo root : Nat), root * root ≤ n → Datum.rootFrom n todo root * Datum.rootFrom n todo root ≤ n
  | 0, root, h => h
  | todo + 1, root, h => by
    simp only [Datum.rootFrom]
    split
    · rename_i h'; exact rootFrom_sq n todo _ h'
    · exact rootFrom_sq n todo _ h
/-- The root of a word that stands for a number below 2 ^ 43. -/
theorem root_bd {kept : Nat} {i : Int} (hk : kept ≠ 0) (hk2 : kept < 9007199254740992) (h1 : -60 ≤ i) (h2 : i ≤ -9) :
    ∃ (mag : Nat) (place : Int), (Datum.number false kept i).root 54 = some (.number false mag place) ∧ mag.log2 ≤ 56 ∧ -900 ≤ place ∧ place ≤ -34 := by
  have hl : kept.log2 ≤ 52 := by
    have := (log2_bd hk).1
    rcases Nat.lt_or_ge kept.log2 53 with h | h
    · omega
    · have h3 : 2 ^ 53 ≤ 2 ^ kept.log2 := Nat.pow_le_pow_right (by omega) h
      omega
  simp only [Datum.root, if_neg hk, Bool.false_eq_true, if_false]
  generalize hmo : 2 * 54 - kept.log2 + ((i - ((2 * 54 - kept.log2 : Nat) : Int)) % 2).toNat = more
  have hm1 : 56 ≤ more ∧ more + kept.log2 ≤ 109 ∧ more ≤ 110 := by omega
  generalize hn : kept <<< more = n
  have hn' : n < 2 ^ 110 := by
    rw [← hn, Nat.shiftLeft_eq]
    have h4 : kept * 2 ^ more < 2 ^ (kept.log2 + 1) * 2 ^ more := Nat.mul_lt_mul_of_pos_right (log2_bd hk).2 (Nat.two_pow_pos _)
    rw [← Nat.pow_add] at h4
    exact Nat.lt_of_lt_of_le h4 (Nat.pow_le_pow_right (by omega) (by omega))
  have hw := rootFrom_sq n (n.log2 / 2 + 1) 0 (by omega)
  generalize Datum.rootFrom n (n.log2 / 2 + 1) 0 = whole at hw
  have hw2 : whole < 2 ^ 55 := by
    rcases Nat.lt_or_ge whole (2 ^ 55) with h | h
    · exact h
    · have := Nat.mul_le_mul h h
      rw [← Nat.pow_add] at this
      omega
  refine ⟨_, _, rfl, ?_, by omega, by omega⟩
  have hb : ∀ b : Bool, b.toNat ≤ 1 := fun b => by cases b <;> decide
  have hb := hb (whole * whole != n)
  generalize hmg : 2 * whole + (whole * whole != n).toNat = mag
  have hmag : mag < 2 ^ 57 := by omega
  by_cases hz : mag = 0
  · rw [hz]; decide
  · have := (log2_bd hz).1
    rcases Nat.lt_or_ge mag.log2 57 with h | h
    · omega
    · have h5 : 2 ^ 57 ≤ 2 ^ mag.log2 := Nat.pow_le_pow_right (by omega) h
      omega
/-- What 'int(math.Sqrt(float64(s)))' comes to. -/
theorem sqrt_small (s : Nat) (hs : s < 8796093022208) : ∃ (r n : Nat), FloatKind.f64.format.sqrt (FloatKind.f64.nearest (s : Int)) = some r ∧ (FloatKind.f64.decode r).toInt .zero = some (n : Int) ∧ n ≤ 16777216 := by
  have e : FloatKind.f64.nearest (s : Int) = double.nearest false s 0 := by
    unfold FloatKind.nearest FloatKind.encode FloatKind.format Format.write
    have : decide ((s : Int) < 0) = false := by simp
    simp only [this, Int.natAbs_natCast]
  rw [e]
  show ∃ r n, double.sqrt _ = some r ∧ (double.read r).toInt .zero = some _ ∧ _
  unfold Format.sqrt
  by_cases h0 : s = 0
  · subst h0
    have e0 : double.nearest false 0 0 = 0 := by simp [Format.nearest, Format.word]
    rw [e0, read_lo (by decide)]
    have er : (Datum.number false 0 (-1074)).root (double.fractionBits + 2) = some (.number false 0 (-1074)) := rfl
    rw [er]
    refine ⟨_, 0, rfl, ?_, by omega⟩
    have : double.write (.number false 0 (-1074)) = 0 := by simp [Format.write, Format.nearest, Format.word]
    rw [this, read_lo (by decide)]
    rfl
  · have hl : s.log2 ≤ 42 := by
      have := (log2_bd h0).1
      rcases Nat.lt_or_ge s.log2 43 with h | h
      · omega
      · have h5 : 2 ^ 43 ≤ 2 ^ s.log2 := Nat.pow_le_pow_right (by omega) h
        omega
    obtain ⟨kept, hk, he⟩ := nearest_bd (mag := s) (place := 0) (last := 0 + s.log2 - 52) h0 rfl (by omega) (by omega)
    rw [he]
    generalize hr : ((0 : Int) + (s.log2 : Int) - 52 + 1074).toNat * 4503599627370496 + kept = r
    have ha : ((0 : Int) + (s.log2 : Int) - 52 + 1074).toNat = s.log2 + 1022 := by omega
    rw [ha] at hr
    have hr1 : 1022 * 4503599627370496 ≤ r := by
      have := Nat.mul_le_mul_right 4503599627370496 (show 1022 ≤ s.log2 + 1022 by omega)
      omega
    have hr2 : r ≤ 1066 * 4503599627370496 := by
      have := Nat.mul_le_mul_right 4503599627370496 (show s.log2 + 1022 ≤ 1064 by omega)
      omega
    rw [read_hi (by omega) (by omega)]
    obtain ⟨mag, place, h1, h2, h3, h4⟩ := root_bd (kept := 4503599627370496 + r % 4503599627370496) (i := -1074 + (r / 4503599627370496 - 1 : Nat)) (by omega) (by omega) (by omega) (by omega)
    obtain ⟨n, hn, hb⟩ := back_bd h2 h3 h4
    have er : (Datum.number false (4503599627370496 + r % 4503599627370496) (-1074 + (r / 4503599627370496 - 1 : Nat))).root (double.fractionBits + 2) = some (.number false mag place) := h1
    rw [er]
    exact ⟨_, n, rfl, hn, hb⟩
end Go.Pv.Sq

/- Numbers made floats and back. -/
namespace Go.Pv
class TFloat (P : Program) (t : TypeId) : Prop where h : P.underlying t = some (.float .f64)
section
variable {P : Program} {K : X → St → Prop} {env : Env} {hp : Hp} {nx n id : Nat} {s : Tmp} {x : Operand} {t t' : TypeId}
theorem go_conv_if {k0 k : IntKind} {a : Int} [h0 : TInt P t k0] [h1 : TFloat P t'] (h : evalD env x = .int k a) (hd : okDst n (some s) = true) (hk : K .normal ⟨(s, .float .f64 (FloatKind.f64.nearest a)) :: env, hp, nx, n⟩) : evOp P (.convert t t' x) id (some s) ⟨env, hp, nx, n⟩ K := by
  rw [evOp_convert]
  refine ⟨.float .f64 (FloatKind.f64.nearest a), ?_, hd, hk⟩
  rw [h]
  simp only [convD, h1.h, h0.h, Option.isSome_some, if_true]
theorem go_conv_fi {b : Nat} {a : Int} [h0 : TFloat P t] [h1 : TInt P t' .i64] (h : evalD env x = .float .f64 b) (ha : (FloatKind.f64.decode b).toInt .zero = some a) (hr : -9223372036854775808 ≤ a ∧ a ≤ 9223372036854775807) (hd : okDst n (some s) = true) (hk : K .normal ⟨(s, .int .i64 a) :: env, hp, nx, n⟩) : evOp P (.convert t t' x) id (some s) ⟨env, hp, nx, n⟩ K := by
  rw [evOp_convert]
  refine ⟨.int .i64 a, ?_, hd, hk⟩
  rw [h]
  simp only [convD, h1.h, h0.h, Option.isSome_some, ha]
  rw [if_pos (show IntKind.min .i64 ≤ a ∧ a ≤ IntKind.max .i64 from hr)]
/-- A call whose result is a float. -/
theorem go_fn_float {args : List Operand} {ts : Array TypeId} {g : FuncId} {args' : List D} {k : FloatKind} {q : Nat} (hp' : purL (lkH hp) 64 (args.map (evalD env)) = some args') (hc : Contract P g args' (.ret (.float k q))) (hd : okDst n (some s) = true)
    (h : K .normal ⟨(s, .float k q) :: env, hp, nx, n⟩) : evOp P (.call { callee := .value (.func g), args := args.toArray, argTypes := ts }) id (some s) ⟨env, hp, nx, n⟩ K :=
  go_call_fn hp' hc (Bool.or_true _) (Nat.le_of_ble_eq_true rfl) hd h
end
end Go.Pv

/- A struct whose last cell is a nil list, and a value, as results. -/
namespace Go.Pv
section
variable {P : Program} {K : X → St → Prop} {env : Env} {hp : Hp} {nx n id : Nat}
theorem fin_agn2 {r1 r2 : ResultVar} {cs : List D} {k : Nat} {d2 : D} (h : resD P ⟨env, hp, nx, n⟩ r1 = some (.agg (cs ++ [.nilsl]))) (hc : cs.all cellP = true) (h2 : resD P ⟨env, hp, nx, n⟩ r2 = some d2) (hs : cellP d2 = true) :
    Fin P [r1, r2] ⟨env, hp, nx, n⟩ (.tup [.agg (cs ++ [.fr k []]), d2]) := by
  have hd2 : cellsD d2 = [d2] := by cases d2 <;> first | (cases hs; done) | rfl
  refine .inr ⟨cs.map (fun _ => Src.pure) ++ [.nil, .pure], [.agg (cs ++ [.nilsl]), d2], [.agg (cs ++ [.fr k []]), d2], by simp [h, h2], by rw [frsOf_nils]; simp [frsOf], ?_, rfl, fun h => by simp at h, by simp [isCell, cellsD], ?_⟩
  · simp only [List.flatMap_cons, List.flatMap_nil, List.append_nil, cells_agg, hd2, List.append_assoc, List.cons_append, List.nil_append]
    exact finL_nils hc ⟨pur_cellP (m := 63) hs, trivial⟩
  · simp only [List.flatMap_cons, List.flatMap_nil, List.append_nil, cells_agg, hd2, List.all_append, List.all_cons, List.all_nil, Bool.and_true, Bool.and_eq_true]
    exact ⟨⟨List.all_eq_true.2 fun c h => isCell_cellP (List.all_eq_true.1 hc c h), rfl⟩, isCell_cellP hs⟩
end
end Go.Pv

/- Loop heads in functions that write into a block of their caller's: block 0 stays. -/
namespace Go.Pv

section
variable {P : Program} {w w' w0 : World} {pu : Nat → Prop} {ow ow' : Nat → Ow} {base : Nat} {g : Sg}
theorem entailsK_morph {ns : Sg} {k nx : Nat} {ks : List Nat} {st : St} (h00 : (0, 0) ∈ g) (ho : okSg g ns nx = true) (hn : ∀ x ∈ ns, lkE st.env x.1 = .nilsl) : EntailsK st (morph g ns k ks nx st) := by
  unfold okSg at ho
  simp only [Bool.and_eq_true, decide_eq_true_eq, List.all_eq_true] at ho
  obtain ⟨⟨hd1, hd2⟩, hlt⟩ := ho
  have hd2' : (g.map (·.2)).Nodup := by
    rw [List.map_append] at hd2
    exact (List.nodup_append.1 hd2).1
  have hdis : ∀ a s b, (a, b) ∈ g → (s, b) ∈ ns → False := fun a s b h1 h2 => by
    rw [List.map_append] at hd2
    exact (List.nodup_append.1 hd2).2.2 b (List.mem_map.2 ⟨_, h1, rfl⟩) b (List.mem_map.2 ⟨_, h2, rfl⟩) rfl
  intro w0 S a w hF ⟨pu, ow, m1, m2, m3, m4, m5, m6, m7⟩
  let ow' : Nat → Ow := fun b' => match lkI g b' with
    | some b => ow b
    | none => if b' ∈ ns.map (·.2) then .empty else .pending
  have h1 : ∀ b b', (b, b') ∈ g → ow' b' = ow b := fun b b' h => by simp only [ow', lkI_of_mem hd2' h]
  have hg : ∀ b b', lkS g b = some b' → ow' b' = ow b := fun b b' h => h1 b b' (lkS_mem h)
  have h2 : ∀ s b', (s, b') ∈ ns → ow' b' = .empty := fun s b' h => by
    have : lkI g b' = none := by
      cases hl : lkI g b' with
      | none => rfl
      | some b => exact (hdis b s b' (lkI_mem hl) h).elim
    simp only [ow', this]
    rw [if_pos (List.mem_map.2 ⟨_, h, rfl⟩)]
  have h3 : ∀ b', (∀ b, (b, b') ∉ g) → (∀ s, (s, b') ∉ ns) → ow' b' = .pending := fun b' hg hs => by
    have : lkI g b' = none := by
      cases hl : lkI g b' with
      | none => rfl
      | some b => exact (hg b (lkI_mem hl)).elim
    simp only [ow', this]
    rw [if_neg]
    rintro hm
    obtain ⟨⟨s, b⟩, hm', rfl⟩ := List.mem_map.1 hm
    exact hs s hm'
  have hcase : ∀ b' y, (ow' b').on y → ∃ b, (b, b') ∈ g ∧ (ow b).on y := fun b' y h => by
    by_cases hgx : ∃ b, (b, b') ∈ g
    · obtain ⟨b, hb⟩ := hgx
      exact ⟨b, hb, by rw [← h1 b b' hb]; exact h⟩
    · by_cases hsx : ∃ s, (s, b') ∈ ns
      · obtain ⟨s, hs⟩ := hsx
        rw [h2 s b' hs] at h; exact h.elim
      · rw [h3 b' (fun b hb => hgx ⟨b, hb⟩) (fun s hs => hsx ⟨s, hs⟩)] at h; exact h.elim
  refine ⟨pu, ow', ⟨fun b' blk' hb => ?_, fun b' hb => ?_, fun b1 b2 y e1 e2 => ?_, fun b' y e => ?_, m1.zone⟩, fun s => ?_, m3, m4, fun b' hb => ?_, m6, m7.1, m7.2.1, fun b => by
    by_cases hb : b = 0
    · subst hb; rw [h1 0 0 h00]; exact m7.2.2 0
    · exact .inl (hF b hb)⟩
  · simp only [morph, lkH_append, Option.or_eq_some_iff] at hb
    rcases hb with hb | ⟨_, hb⟩
    · obtain ⟨rfl, s, hs⟩ := lkH_nilH hb
      rw [h2 s b' hs]
      exact ⟨fun _ => rfl, rfl⟩
    · obtain ⟨b, blk, hm, hb2, rfl⟩ := morphH_get hb
      rw [h1 b b' hm]
      exact (m1.blk b blk hb2).ren hg
  · simp only [morph, lkH_append, Option.or_eq_none_iff] at hb
    by_cases hgx : ∃ b, (b, b') ∈ g
    · obtain ⟨b, hm⟩ := hgx
      rw [h1 b b' hm]
      refine m1.none b ?_
      cases hl : lkH st.hp b with
      | none => rfl
      | some blk => exact (morphH_none (by rw [hl]; simp) hm hb.2).elim
    · by_cases hsx : ∃ s, (s, b') ∈ ns
      · obtain ⟨s, hs⟩ := hsx
        exact (lkH_nilH_none hs hb.1).elim
      · exact .inr (h3 b' (fun b hb => hgx ⟨b, hb⟩) (fun s hs => hsx ⟨s, hs⟩))
  · obtain ⟨c1, hc1, f1⟩ := hcase b1 _ e1
    obtain ⟨c2, hc2, f2⟩ := hcase b2 _ e2
    have := m1.injO c1 c2 _ f1 f2
    subst this
    exact fst_inj hd1 hc1 hc2
  · obtain ⟨c, hc, f⟩ := hcase b' _ e
    exact m1.ownO c _ f
  · simp only [morph]
    rw [lkE_append]
    split
    · rename_i hs
      obtain ⟨b, hb, he⟩ := lkE_nilE hs
      rw [he]
      have := m2 s
      rw [hn (s, b) hb] at this
      have hv : a.tmps.getD s undef = .slice none 0 0 := by
        generalize a.tmps.getD s undef = v at this
        cases this with
        | pure _ _ h => cases h
        | nilsl => rfl
      rw [hv]
      exact .ose none b 0 (h2 s b hb)
    · unfold morphE
      rw [lkE_restr (fun s => Go.Pv.ren g (lkE st.env s))]
      split
      · exact (m2 s).ren hg
      · exact .pure _ _ (.undef _)
  · simp only [morph] at hb
    refine h3 b' (fun b hm => ?_) fun s hm => ?_
    · have := hlt (b, b') (by simp [hm])
      simp at this
      omega
    · have := hlt (s, b') (by simp [hm])
      simp at this
      omega


theorem entailsK_eq {ns : Sg} {k nx : Nat} {ks : List Nat} {st st' : St} (g : Sg) (h00 : (0, 0) ∈ g) (ho : okSg g ns nx = true) (hn : ∀ x ∈ ns, lkE st.env x.1 = .nilsl) (he : morph g ns k ks nx st = st') : EntailsK st st' := he ▸ entailsK_morph h00 ho hn
end
end Go.Pv

/- An element appended to the first ones of an own list. -/
namespace Go.Pv
section
variable {P : Program} {E : St → St → Prop} {K : X → St → Prop} {env : Env} {hp : Hp} {nx n id : Nat} {s : Tmp} {x y f : Operand} {t t' : TypeId}
/-- One element appended to the first ones of an own list; what stood behind them is forgotten. -/
theorem go_app_mapt {α : Type} {f : α → List D} {e k b b2 len : Nat} {l : List α} {a : α} {fl2 : Bool} [hs : TSlice P t e k] (hf : ScalF f k) (h1 : evalD env x = .os b 0 len) (h2 : evalD env y = .os b2 0 1) (hb : lkH hp b = some ⟨k, true, l.map f⟩) (hlen : len ≤ l.length) (hb2 : lkH hp b2 = some ⟨k, fl2, [f a]⟩)
    (hc1 : ((f a).all cell1) = true) (hz : zeroOK P e = true) (hby : Nat.ble (P.bytesOf e) 4096 = true) (hn : len ≤ 1000000000) (hd : okDst n (some s) = true)
    (hk : K .normal ⟨(s, .os b 0 (len + 1)) :: purgeE b env, (b, ⟨k, true, (l.take len ++ [a]).map f⟩) :: purgeH b hp, nx, n⟩) : evOp P (.call { callee := .builtin .append, args := #[x, y], argTypes := #[t, t] }) id (some s) ⟨env, hp, nx, n⟩ K := by
  have hby' : P.bytesOf e ≤ 4096 := Nat.le_of_ble_eq_true hby
  have hap : appendD P (lkH hp) t (evalD env x) (evalD env y) = some (some b, ⟨k, true, (l.take len ++ [a]).map f⟩) := by
    have hx : contentD (lkH hp) (.os b2 0 1) = some [f a] := by simp [contentD, hb2]
    have ho : contentD (lkH hp) (.os b 0 len) = some ((l.take len).map f) := by
      simp only [contentD, hb, Option.bind_some]
      rw [if_pos (by simpa using hlen)]
      rw [List.drop_zero, List.map_take]
    unfold appendD
    rw [hs.u, h1, h2]
    simp only [hx, ho, Option.bind_some]
    have hmul : (len + 1) * P.bytesOf e ≤ 140737488355328 := by
      have := Nat.mul_le_mul (show len + 1 ≤ 1000000001 by omega) hby'
      omega
    have hdl : (l.take len).length = len := by simp; omega
    rw [if_pos]
    · rw [hb]
      simp only [Option.bind_some]
      rw [if_pos]
      · have hft : flatRows [f a] = true := by
          have := flat_map hf [a]
          simpa using this
        simp [hs.c, hft]
      · refine ⟨.inl hs.c.symm, fun r hr c hc => ?_⟩
        have : ∃ a', r = f a' := by
          simp only [List.mem_append, List.mem_map, List.mem_singleton] at hr
          rcases hr with ⟨a', _, rfl⟩ | rfl
          · exact ⟨a', rfl⟩
          · exact ⟨a, rfl⟩
        obtain ⟨a', rfl⟩ := this
        exact scal1_ment (List.all_eq_true.1 (hf a').2 c hc)
    · refine ⟨by rw [hs.c]; exact hs.p, fun r hr => ?_, fun r hr c hc => ?_, by simp only [List.length_map, hdl, List.length_cons, List.length_nil]; exact hmul, by simp only [List.length_map, hdl, List.length_cons, List.length_nil]; omega, hz, by simp [kOK, hb2, hs.c]⟩
      · simp only [List.mem_singleton] at hr
        rw [hr, (hf a).1, hs.c]
      · simp only [List.mem_singleton] at hr
        subst hr
        exact List.all_eq_true.1 hc1 c hc
  refine go_append_on hap hd ?_
  have e : (⟨k, true, (l.take len ++ [a]).map f⟩ : Blk).rows.length = len + 1 := by simp; omega
  rw [e]
  exact hk

theorem fin_nil1 {r1 : ResultVar} {k : Nat} (h1 : resD P ⟨env, hp, nx, n⟩ r1 = some .nilsl) : Fin P [r1] ⟨env, hp, nx, n⟩ (.fr k []) :=
  .inl ⟨[.nil], [.nilsl], [.fr k []], by simp [h1], by simp [frsOf], ⟨⟨rfl, k, rfl⟩, trivial⟩, rfl, fun _ => rfl⟩
/-- Of a block's rows the last ones may be forgotten. -/
theorem entails_take {st : St} {b : Nat} {blk : Blk} (m : Nat) (hb : lkH st.hp b = some blk) (hk : 0 < blk.k := by decide) : Entails st ⟨st.env, updH b ⟨blk.k, blk.flat, blk.rows.take m⟩ st.hp, st.nx, st.n⟩ := by
  intro w0 S a w hF ⟨pu, ow, m1, m2, m3, m4, m5, m6, m7⟩
  refine ⟨pu, ow, ⟨fun c blk2 hc => ?_, fun c hc => ?_, m1.injO, m1.ownO, m1.zone⟩, m2, m3, m4, m5, m6, m7⟩
  · rw [lkH_updH] at hc
    split at hc
    · rename_i h
      obtain ⟨rfl, _⟩ := h
      injection hc with hc; subst hc
      exact blk_take (m1.blk c blk hb) (fun g e => by have := m1.blk c blk hb; rw [e] at this; have h2 : blk.k = 0 := this.2.1.2; omega) m
    · exact m1.blk c blk2 hc
  · rw [lkH_updH] at hc
    split at hc
    · cases hc
    · exact m1.none c hc
end
end Go.Pv

/- A new list of three integers. -/
namespace Go.Pv
section
variable {P : Program} {E : St → St → Prop} {K : X → St → Prop} {env : Env} {hp : Hp} {nx n id : Nat} {s : Tmp} {x y u v : Operand} {t : TypeId}
theorem go_bs3_int {e : Nat} {z : D} {k k2 k3 : IntKind} {a b c : Int} [hs : TSlice P t e 1] [hz : TZero P e z] (h1 : evalD env x = .int k a) (h2 : evalD env y = .int k2 b) (h3 : evalD env u = .int k3 c) (hzl : (cellsD z).length = 1) (hd : okDst n (some s) = true)
    (hk : K .normal ⟨(s, .os id 0 3) :: env, (id, ⟨1, true, [[.int k a], [.int k2 b], [.int k3 c]]⟩) :: hp, nx, n⟩) : evOp P (.buildSlice t 3 #[(0, x), (1, y), (2, u)]) id (some s) ⟨env, hp, nx, n⟩ K := by
  have ho : op1 P (evalD env) (.buildSlice t 3 #[(0, x), (1, y), (2, u)]) = some (false, ⟨1, true, [[.int k a], [.int k2 b], [.int k3 c]]⟩) := by
    simp only [op1, hs.u, hz.h, Option.bind_some]
    rw [if_neg (by decide), if_pos ⟨hz.k, by rw [hzl, hs.c], by rw [hs.c]; decide, by rw [hs.c]; decide⟩]
    simp only [List.map_cons, List.map_nil, h1, h2, h3, hs.c]
    rfl
  unfold evOp
  simp only [op0, ho]
  exact ⟨hd, hk⟩
end
theorem purL_os2 {h : Nat → Option Blk} {b len k : Nat} {rows : List (List D)} {d d' : D} {ds rs : List D} (hd : pur h 63 d = some d') (hb : h b = some ⟨k, true, rows⟩) (hl : rows.length = len) (hr : purL h 62 ds = some rs) : purL h 64 (d :: .os b 0 len :: ds) = some (d' :: .sl rows :: rs) := by
  have e : purL h 63 (.os b 0 len :: ds) = some (.sl rows :: rs) := by
    show (pur h 62 _).bind _ = _
    rw [pur_own (m := 61) hb hl]
    simp only [Option.bind_some, hr, Option.map_some]
  show (pur h 63 _).bind _ = _
  rw [hd]
  simp only [Option.bind_some, e, Option.map_some]
end Go.Pv

/- slices.Collect and slices.Sorted at an iterator that reads memory between the rounds: as the worked proofs of the kit, with the rounds' relation bound to what lay before the call. -/
namespace Go.Pv
open Go.Proofs Go.RowKit Go.Maps Go.Sort Go.Shelf
variable {P : Program} {ρ : Ren}
/-- What an iterator's function does for each relation that keeps what lay before. -/
def SeqB {α : Type} (F : Fence) (n : Nat) (P : Program) (g : Nat) (lb : Array Value) (enc : α → Value) (S : List α → Prop) (N : Nat) (w : World) : Prop :=
  ∀ (l : Nat) (J : List α → World → Prop) (W : World), Go.RowKit.Below w.heap.size w W → (∀ pre W1, J pre W1 → Go.RowKit.Below w.heap.size w W1) →
    (∀ pre x W1, J pre W1 → pre.length < N → YieldAt F (n - 1) P l #[enc x] W1 fun e W' => e = .returned (.bool true) ∧ J (pre ++ [x]) W' ∧ KeepsWalks W1 W') → J [] W →
    CallsIn F n P g (#[.func (.yield l) #[] #[]] ++ lb) W fun e W' => (∃ v, e = .returned v) ∧ ∃ xs, S xs ∧ J xs W'
theorem SeqB.bounded {α : Type} {F : Fence} {n : Nat} {g : Nat} {lb : Array Value} {enc : α → Value} {S : List α → Prop} {N : Nat} {w : World} (h : SeqB F n P g lb enc S N w) : SeqB F n P g lb enc (fun xs => S xs ∧ xs.length ≤ N) N w := fun l J W hW hJ hY h0 => by
  refine (h l (fun xs W' => J xs W' ∧ xs.length ≤ N) W hW (fun pre W1 hs => hJ pre W1 hs.1)
    (fun pre x W1 hj hl => (hY pre x W1 hj.1 hl).mono (fun e w' hr => ⟨hr.1, ⟨hr.2.1, by simp; omega⟩, hr.2.2⟩)) ⟨h0, Nat.zero_le _⟩).mono ?_
  rintro e W' ⟨hv, xs, hS, hJ', hlen⟩
  exact ⟨hv, xs, ⟨hS, hlen⟩, hJ'⟩
set_option maxRecDepth 100000 in
set_option maxHeartbeats 2000000 in
theorem appendSeq_b (L : SlLaysZI.n11 P ρ) (F : Fence) (n : Nat) (h11 : F.fn (ρ.f 11)) (hro : F.round = none) (hn : 2 ≤ n) (g : Nat) (lb : Array Value) (hFg : F.fn g) (eg : ∀ args w, (callFunc g args).run P w = .ok (.enter g args) w)
    (S : List Int → Prop) (N : Nat) (hN : N ≤ maxLen) (hNb : N * 8 ≤ 140737488355328) (w : World) (hseq : SeqB F (n - 1) P g lb encZ S N w) :
    CallsIn F n P (ρ.f 11) #[.slice none 0 0, .func (.func g) #[] lb] w fun e w' => ∃ (v : Value) (ss : List Int), e = .returned v ∧ S ss ∧ w'.ownsRow w.heap.size (ρ.t 26) 1 v ss.length (ss.map encZ) ∧ (v = .slice none 0 0 ↔ ss = []) ∧ Go.RowKit.Below w.heap.size w w' := by
  have h1 : 1 ≤ n := by omega
  have mixed := L.mixed; have t0 := L.t0; have a0 := L.a0; have z0 := L.z0; have v0 := L.v0; have t24 := L.t24; have a24 := L.a24; have z24 := L.z24; have v24 := L.v24; have t26 := L.t26; have a26 := L.a26; have z26 := L.z26; have v26 := L.v26; have t28 := L.t28; have a28 := L.a28; have z28 := L.z28; have v28 := L.v28
  have hne : ρ.t 24 ≠ ρ.t 26 := fun e => by have h := L.t24; rw [e, L.t26] at h; cases h
  have u0 := run_underlying L.t0; have u24 := run_underlying L.t24; have u26 := run_underlying L.t26; have u28 := run_underlying L.t28
  obtain ⟨_, _, FG⟩ := L.f11
  refine callsIn_of_wp_marks FG rfl h11 ?_ hro
  simp only [SlBodyZ.n11_ntmps ρ, List.size_toArray, List.length_cons, List.length_nil, Nat.reduceAdd, Nat.reduceSub, Array.replicate_succ, Array.replicate_zero, List.push_toArray, List.append_toArray, List.nil_append, List.cons_append]
  gi_wp2
  refine wpIn_rangeFunc ?_
  intro fn hfn
  rw [hro]
  obtain ⟨W0, hW0⟩ : ∃ W0, w.alloc (.cells #[.slice none 0 0] (ρ.t 24)) = W0 := ⟨_, rfl⟩
  have hs0 : W0.heap.size = w.heap.size + 1 := by rw [← hW0]; simp
  have hv0 : W0.heap[w.heap.size]? = some (.cells #[.slice none 0 0] (ρ.t 24) (0, 0)) := by rw [← hW0]; exact World.alloc_heap_new w _
  have hb0 : Go.RowKit.Below w.heap.size w W0 := by rw [← hW0]; exact (Go.RowKit.Below.refl _ w).alloc (Nat.le_refl _) _
  rw [hW0]
  obtain ⟨W1, hW1⟩ : ∃ W1, (W0.alloc (.deferred (some []))).alloc (.loop (AnyZI.apRec ρ fn (.func (.func g) #[] lb) w.heap.size W0.heap.size .ready none)) = W1 := ⟨_, rfl⟩
  have hold : ∀ k, k < W0.heap.size → W1.heap[k]? = W0.heap[k]? := fun k hk => by
    rw [← hW1]; exact (Go.RowKit.Below.heap_alloc _ _ k (by simp; omega)).trans (Go.RowKit.Below.heap_alloc _ _ k hk)
  have hb1 : Go.RowKit.Below w.heap.size w W1 := by rw [← hW1]; exact (hb0.alloc hb0.size _).alloc (by have := hb0.size; simp; omega) _
  have hs1 : W1.heap.size = W0.heap.size + 2 := by rw [← hW1]; simp
  have hM : AnyZI.ApAt ρ w fn (.func (.func g) #[] lb) w.heap.size (W0.heap.size + 1) W0.heap.size [] W1 :=
    ⟨⟨_, (hold w.heap.size (by omega)).trans hv0, ⟨rfl, .inl ⟨rfl, rfl⟩⟩, by simp⟩,
     by rw [← hW1]; have := World.alloc_heap_new (W0.alloc (.deferred (some []))) (.loop (AnyZI.apRec ρ fn (.func (.func g) #[] lb) w.heap.size W0.heap.size .ready none)); rwa [World.size_alloc] at this,
     by rw [← hW1]; exact (Go.RowKit.Below.heap_alloc _ _ _ (by simp)).trans (World.alloc_heap_new W0 _), hb1⟩
  refine ⟨W0.heap.size + 1, [{ target := .collected W0.heap.size, args := #[] }], W1, { target := .fn (.func g) lb, args := #[.func (.yield (W0.heap.size + 1)) #[] #[]] }, W1, g,
    #[.func (.yield (W0.heap.size + 1)) #[] #[]] ++ lb, W1, ?_, ?_, ?_, ?_, fun _ => h1, ?_⟩
  · rw [← hW1]; exact run_enterLoop_outer _ _ _ _ _
  · simp [resolve, go_sem]
  · intro f' hf'; simp [Target.leads] at hf'; subst hf'; exact hFg
  · simp [invoke, go_sem, eg]
  · refine (hseq (W0.heap.size + 1) (AnyZI.ApAt ρ w fn (.func (.func g) #[] lb) w.heap.size (W0.heap.size + 1) W0.heap.size) W1 hb1 (fun pre W1 h => h.below)
      (fun pre x W hJ hl => AnyZI.apYield { L with } F (n - 1 - 1) w fn hfn _ w.heap.size (W0.heap.size + 1) W0.heap.size (by omega) (by omega) (by omega) (Nat.le_refl _) (by omega) N hN hNb pre x W hJ hl) hM).mono ?_
    rintro e W2 ⟨⟨v0, rfl⟩, ss, hS, h2⟩
    obtain ⟨v, hv, hrow, hnil⟩ := h2.box
    have hend := run_endLoop (P := P) h2.L (by simp [AnyZI.apRec])
    obtain ⟨W3, hW3⟩ : ∃ W3, W2.putObj (W0.heap.size + 1) (.loop { AnyZI.apRec ρ fn (.func (.func g) #[] lb) w.heap.size W0.heap.size .ready none with state := .exhausted }) = W3 := ⟨_, rfl⟩
    rw [hW3] at hend
    have hg3 : W2.grownBy W3 (some (W0.heap.size + 1)) := by rw [← hW3]; exact grownBy_putObj_a _ _ _
    have hv3 : W3.heap[w.heap.size]? = some (.cells #[v] (ρ.t 24) (0, 0)) := by rw [← hW3]; exact (World.putObj_heap_other (by omega)).trans hv
    have hK3 : W3.heap[W0.heap.size]? = some (.deferred (some [])) := by rw [← hW3]; exact (World.putObj_heap_other (by omega)).trans h2.K
    have hrow3 := hrow.kept hg3 (ownsRow_ne_a hrow h2.L (fun cur e => by first | cases e | exact hne (Obj.cells.inj e).2.1))
    have hb3 : Go.RowKit.Below w.heap.size w W3 := h2.below.grown hg3 h2.below.size (fun k e => by cases e; omega)
    obtain ⟨hc3, hf3⟩ := cell_of_box_a hv3
    clear hW3
    refine ⟨none, W3, hend, ?_⟩
    gi_wp2
    rw [← hs0]
    refine ⟨by simp, .inl ⟨_, _, rfl, run_takeDeferred hK3, ?_⟩⟩
    exact ⟨_, results_tmp rfl _ _ _, v, ss, rfl, hS, hrow3.kept (grownBy_putObj_a _ _ _) (ownsRow_ne_a hrow3 hK3 (fun cur e => by first | cases e | exact hne (Obj.cells.inj e).2.1)), hnil, hb3.grown (grownBy_putObj_a _ _ _) hb3.size (fun k e => by cases e; omega)⟩

set_option maxRecDepth 100000 in
set_option maxHeartbeats 2000000 in
theorem collect_b (L : SlLaysZI.n8 P ρ) (F : Fence) (n : Nat) (h8 : F.fn (ρ.f 8)) (h11 : F.fn (ρ.f 11)) (hro : F.round = none) (hn : 3 ≤ n) (g : Nat) (lb : Array Value) (hFg : F.fn g) (eg : ∀ args w, (callFunc g args).run P w = .ok (.enter g args) w)
    (S : List Int → Prop) (N : Nat) (hN : N ≤ maxLen) (hNb : N * 8 ≤ 140737488355328) (w : World) (hseq : SeqB F (n - 1 - 1) P g lb encZ S N w) :
    CallsIn F n P (ρ.f 8) #[.func (.func g) #[] lb] w fun e w' => ∃ (v : Value) (ss : List Int), e = .returned v ∧ S ss ∧ w'.ownsRow w.heap.size (ρ.t 26) 1 v ss.length (ss.map encZ) ∧ (v = .slice none 0 0 ↔ ss = []) ∧ Go.RowKit.Below w.heap.size w w' := by
  have h1 : 1 ≤ n := by omega
  have e11 : ∀ args w, (callFunc (ρ.f 11) args).run P w = .ok (.enter (ρ.f 11) args) w := L.f11.enters rfl
  have mixed := L.mixed; have t0 := L.t0; have a0 := L.a0; have z0 := L.z0; have v0 := L.v0; have t24 := L.t24; have a24 := L.a24; have z24 := L.z24; have v24 := L.v24; have t26 := L.t26; have a26 := L.a26; have z26 := L.z26; have v26 := L.v26; have t28 := L.t28; have a28 := L.a28; have z28 := L.z28; have v28 := L.v28
  have u0 := run_underlying L.t0; have u24 := run_underlying L.t24; have u26 := run_underlying L.t26; have u28 := run_underlying L.t28
  obtain ⟨_, _, FG⟩ := L.f8
  refine callsIn_of_wp FG rfl h8 ?_ hro
  simp only [SlBodyZ.n8_ntmps ρ, List.size_toArray, List.length_cons, List.length_nil, Nat.reduceAdd, Nat.reduceSub, Array.replicate_succ, Array.replicate_zero, List.push_toArray, List.append_toArray, List.nil_append, List.cons_append]
  gi_wp2_with (gi_at_fn (ρ.f 11); refine (appendSeq_b { L with } F (n - 1) h11 hro (by omega) g lb hFg eg S N hN hNb _ hseq).mono ?_; rintro e w' ⟨v, ss, rfl, hS, hrow, hnil, hb⟩)
  go_ret
  exact ⟨v, ss, rfl, hS, hrow, hnil, hb⟩

set_option maxRecDepth 100000 in
set_option maxHeartbeats 2000000 in
theorem sorted_b (L : SlLaysZI.n6 P ρ) (F : Fence) (n : Nat) (h6 : F.fn (ρ.f 6)) (h8 : F.fn (ρ.f 8)) (h9 : F.fn (ρ.f 9)) (h11 : F.fn (ρ.f 11)) (hro : F.round = none) (hn : 4 ≤ n) (hsort : AnyZI.SortsIn P ρ F (n - 1)) (e9 : ∀ args w, (callFunc (ρ.f 9) args).run P w = .ok (.enter (ρ.f 9) args) w) (g : Nat) (lb : Array Value) (hFg : F.fn g) (eg : ∀ args w, (callFunc g args).run P w = .ok (.enter g args) w)
    (S : List Int → Prop) (N : Nat) (hN : N ≤ maxLen) (hNb : N * 8 ≤ 140737488355328) (w : World) (hseq : SeqB F (n - 1 - 1 - 1) P g lb encZ S N w) :
    CallsIn F n P (ρ.f 6) #[.func (.func g) #[] lb] w fun e w' => ∃ (v : Value) (ss : List Int), e = .returned v ∧ S ss ∧
      w'.ownsRow w.heap.size (ρ.t 26) 1 v ss.length ((ss.mergeSort (fun x y => decide (x ≤ y))).map encZ) ∧ (v = .slice none 0 0 ↔ ss = []) ∧ Go.RowKit.Below w.heap.size w w' := by
  have h1 : 1 ≤ n := by omega
  have e8 : ∀ args w, (callFunc (ρ.f 8) args).run P w = .ok (.enter (ρ.f 8) args) w := L.f8.enters rfl
  have mixed := L.mixed; have t0 := L.t0; have a0 := L.a0; have z0 := L.z0; have v0 := L.v0; have t24 := L.t24; have a24 := L.a24; have z24 := L.z24; have v24 := L.v24; have t26 := L.t26; have a26 := L.a26; have z26 := L.z26; have v26 := L.v26; have t28 := L.t28; have a28 := L.a28; have z28 := L.z28; have v28 := L.v28
  have u0 := run_underlying L.t0; have u24 := run_underlying L.t24; have u26 := run_underlying L.t26; have u28 := run_underlying L.t28
  obtain ⟨_, _, FG⟩ := L.f6
  refine callsIn_of_wp FG rfl h6 ?_ hro
  simp only [SlBodyZ.n6_ntmps ρ, List.size_toArray, List.length_cons, List.length_nil, Nat.reduceAdd, Nat.reduceSub, Array.replicate_succ, Array.replicate_zero, List.push_toArray, List.append_toArray, List.nil_append, List.cons_append]
  gi_wp2_with (gi_at_fn (ρ.f 8); refine (collect_b { L with } F (n - 1) h8 h11 hro (by omega) g lb hFg eg _ N hN hNb _ hseq.bounded).mono ?_; rintro e W ⟨v, ss, rfl, ⟨hS, hlen⟩, hrow, hnil, hb⟩)
  rcases hrow.2 with ⟨rfl, hz⟩ | ⟨gb, cap, cur, rfl, hbase, hgb, r1, r2, r3, r4⟩
  · -- nothing came: the nil slice is sorted and handed back
    have hss : ss = [] := List.eq_nil_of_length_eq_zero hz
    subst hss
    gi_wp2_with (gi_at_fn (ρ.f 9); refine (hsort.2 none 0 W).mono ?_; rintro e w' ⟨rfl, rfl⟩)
    go_ret
    exact ⟨.slice none 0 0, [], rfl, hS, by simpa using hrow, by simp, hb⟩
  · have hH : Holds encZ W gb 0 ss.toArray := holds_of_block_i hgb (by simpa using r4)
    have hgl : gb < W.heap.size := (Array.getElem?_eq_some_iff.1 hgb).1
    have hsz : ss.length < 4611686018427387904 := by omega
    have cS := hsort.1 gb 0 cap ss W hH hgl hsz
    gi_wp2_with (gi_at_fn (ρ.f 9); refine cS.mono ?_; rintro e w' ⟨rfl, nn, os, rfl⟩)
    go_ret
    exact ⟨_, ss, rfl, hS, ownsRow_sorted_i (by simp) hbase hgb r1 r2 r3, hnil, hb.grown (grownBy_sorted_i _) hb.size (fun j hj => by cases hj; exact hbase)⟩

end Go.Pv

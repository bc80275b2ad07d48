import Derived.Test.YtdedpndkohfgbaaSL
/- Part of the proofs over Ytdedpndkohfgbaa: PwO, PwP, PwQ, PwR. -/
set_option linter.unusedVariables false
set_option linter.unusedSimpArgs false
set_option linter.unnecessarySimpa false
/- A whole list appended to an empty one; lists that are not empty compared with nil. -/
namespace Go.Pv
section
variable {P : Program} {K : X → St → Prop} {env : Env} {hp : Hp} {nx n id : Nat} {s : Tmp} {x y : Operand} {t : TypeId}
theorem go_app_sl {α : Type} {f : α → List D} {e k b : Nat} {l : List α} [hs : TSlice P t e k] (hf : ScalF f k) (h1 : evalD env x = .os b 0 0) (h2 : evalD env y = .sl (l.map f)) (hb : lkH hp b = some ⟨0, true, []⟩)
    (hc1 : ∀ a, ((f a).all cell1) = true) (hz : zeroOK P e = true) (hby : Nat.ble (P.bytesOf e) 4096 = true) (hn : l.length ≤ 1000000000) (hd : okDst n (some s) = true)
    (hk : K .normal ⟨(s, .os b 0 l.length) :: purgeE b env, (b, ⟨k, true, l.map f⟩) :: purgeH b hp, nx, n⟩) : evOp P (.call { callee := .builtin .append, args := #[x, y], argTypes := #[t, t] }) id (some s) ⟨env, hp, nx, n⟩ K := by
  have hby' : P.bytesOf e ≤ 4096 := Nat.le_of_ble_eq_true hby
  have hap : appendD P (lkH hp) t (evalD env x) (evalD env y) = some (some b, ⟨k, true, l.map f⟩) := by
    have ho : contentD (lkH hp) (.os b 0 0) = some [] := by simp [contentD, hb]
    unfold appendD
    rw [hs.u, h1, h2]
    have hx : contentD (lkH hp) (.sl (l.map f)) = some (l.map f) := rfl
    simp only [hx, ho, Option.bind_some]
    have hmul : l.length * P.bytesOf e ≤ 140737488355328 := by
      have := Nat.mul_le_mul hn hby'
      omega
    rw [if_pos]
    · rw [hb]
      simp only [Option.bind_some]
      rw [if_pos]
      · simp [hs.c, flat_map hf]
      · refine ⟨.inr (by trivial), fun r hr c hc => ?_⟩
        simp only [List.nil_append] at hr
        obtain ⟨a, _, rfl⟩ := List.mem_map.1 hr
        exact scal1_ment (List.all_eq_true.1 (hf a).2 c hc)
    · refine ⟨by rw [hs.c]; exact hs.p, fun r hr => ?_, fun r hr c hc => ?_, by simpa using hmul, by simp; omega, hz, rfl⟩
      · obtain ⟨a, _, rfl⟩ := List.mem_map.1 hr
        rw [(hf a).1, hs.c]
      · obtain ⟨a, _, rfl⟩ := List.mem_map.1 hr
        exact List.all_eq_true.1 (hc1 a) c hc
  refine go_append_on hap hd ?_
  have e : (⟨k, true, l.map f⟩ : Blk).rows.length = l.length := by simp
  rw [e]
  exact hk

theorem go_nileq_sl {α : Type} {f : α → List D} {e k : Nat} {l : List α} {r : TypeId} [hs : TSlice P t e k] (h : evalD env x = .sl (l.map f)) (hne : 0 < l.length) (hd : okDst n (some s) = true) (hk : K .normal ⟨(s, .bool false) :: env, hp, nx, n⟩) :
    evOp P (.binOp .eql t x (.const (.slice none 0 0)) r) id (some s) ⟨env, hp, nx, n⟩ K := by
  refine go_nilcmp (bs := [false]) ?_ rfl ?_ rfl hd ?_
  · simp only [op0, h]; rfl
  · simp only [nilB, nilT, hs.u, h, nilS]
    have : (l.map f).isEmpty = false := by
      cases l with
      | nil => simp at hne
      | cons a l => rfl
    rw [this]; rfl
  · intro b hb
    simp only [List.mem_singleton] at hb
    subst hb
    exact hk
end
end Go.Pv

/- Structs whose last cell is a nil list, as results. -/
namespace Go.Pv
section
variable {P : Program} {K : X → St → Prop} {env : Env} {hp : Hp} {nx n id : Nat}
theorem finL_nils {h hX : Nat → Option Blk} {k : Nat} : ∀ {cs tl tr : List D} {ss : List Src}, cs.all cellP = true → finL h hX ss tl tr →
    finL h hX (cs.map (fun _ => Src.pure) ++ .nil :: ss) (cs ++ .nilsl :: tl) (cs ++ .fr k [] :: tr)
  | [], _, _, _, _, ht => ⟨⟨rfl, k, rfl⟩, ht⟩
  | c :: cs, _, _, _, hc, ht => by
    simp only [List.all_cons, Bool.and_eq_true] at hc
    exact ⟨pur_cellP (m := 63) hc.1, finL_nils hc.2 ht⟩
theorem frsOf_nils {ss : List Src} : ∀ (cs : List D), frsOf (cs.map (fun _ => Src.pure) ++ .nil :: ss) = frsOf ss
  | [] => rfl
  | c :: cs => by simp only [List.map_cons, List.cons_append, frsOf]; exact frsOf_nils cs
theorem fin_agn3 {r1 r2 r3 : ResultVar} {cs : List D} {k : Nat} {d2 d3 : D} (h : resD P ⟨env, hp, nx, n⟩ r1 = some (.agg (cs ++ [.nilsl]))) (hc : cs.all cellP = true) (h2 : resD P ⟨env, hp, nx, n⟩ r2 = some d2) (hs : cellP d2 = true) (h3 : resD P ⟨env, hp, nx, n⟩ r3 = some d3) (hs3 : cellP d3 = true) :
    Fin P [r1, r2, r3] ⟨env, hp, nx, n⟩ (.tup [.agg (cs ++ [.fr k []]), d2, d3]) := by
  have hd2 : cellsD d2 = [d2] := by cases d2 <;> first | (cases hs; done) | rfl
  have hd3 : cellsD d3 = [d3] := by cases d3 <;> first | (cases hs3; done) | rfl
  refine .inr ⟨cs.map (fun _ => Src.pure) ++ [.nil, .pure, .pure], [.agg (cs ++ [.nilsl]), d2, d3], [.agg (cs ++ [.fr k []]), d2, d3], by simp [h, h2, h3], by rw [frsOf_nils]; simp [frsOf], ?_, rfl, fun h => by simp at h, by simp [isCell, cellsD], ?_⟩
  · simp only [List.flatMap_cons, List.flatMap_nil, List.append_nil, cells_agg, hd2, hd3, List.append_assoc, List.cons_append, List.nil_append]
    exact finL_nils hc ⟨pur_cellP (m := 63) hs, pur_cellP (m := 63) hs3, trivial⟩
  · simp only [List.flatMap_cons, List.flatMap_nil, List.append_nil, cells_agg, hd2, hd3, List.all_append, List.all_cons, List.all_nil, Bool.and_true, Bool.and_eq_true]
    exact ⟨⟨List.all_eq_true.2 fun c h => isCell_cellP (List.all_eq_true.1 hc c h), rfl⟩, isCell_cellP hs, isCell_cellP hs3⟩
/-- Two structs whose last cells are own lists, handed over. -/
theorem purL_agf_agf {h : Nat → Option Blk} {b len k b2 len2 k2 : Nat} {rows rows2 : List (List D)} {cs cs2 : List D} (hb : h b = some ⟨k, true, rows⟩) (hl : rows.length = len) (hc : cs.all cellP = true) (hn : Nat.ble cs.length 40 = true) (hb2 : h b2 = some ⟨k2, true, rows2⟩) (hl2 : rows2.length = len2) (hc2 : cs2.all cellP = true) (hn2 : Nat.ble cs2.length 40 = true) :
    purL h 64 [.agg (cs ++ [.os b 0 len]), .agg (cs2 ++ [.os b2 0 len2])] = some [.agg (cs ++ [.sl rows]), .agg (cs2 ++ [.sl rows2])] := by
  have hn2' := Nat.le_of_ble_eq_true hn2
  refine purL_agf hb hl hc hn ?_
  have e : pur h 62 (.agg (cs2 ++ [.os b2 0 len2])) = some (.agg (cs2 ++ [.sl rows2])) := by
    show (purL h 61 _).map D.agg = _
    rw [purL_cells hb2 hl2 (by omega) hc2]
    rfl
  show (pur h 62 _).bind _ = _
  rw [e]
  rfl
/-- A struct whose last cell is an own list, handed over behind another value. -/
theorem purL_agf2 {h : Nat → Option Blk} {b len k : Nat} {rows : List (List D)} {d d' : D} {cs ds rs : List D} (hd : pur h 63 d = some d') (hb : h b = some ⟨k, true, rows⟩) (hl : rows.length = len) (hc : cs.all cellP = true) (hn : Nat.ble cs.length 40 = true) (hr : purL h 62 ds = some rs) :
    purL h 64 (d :: .agg (cs ++ [.os b 0 len]) :: ds) = some (d' :: .agg (cs ++ [.sl rows]) :: rs) := by
  have hn' := Nat.le_of_ble_eq_true hn
  have e : pur h 62 (.agg (cs ++ [.os b 0 len])) = some (.agg (cs ++ [.sl rows])) := by
    show (purL h 61 _).map D.agg = _
    rw [purL_cells hb hl (by omega) hc]
    rfl
  have e2 : purL h 63 (.agg (cs ++ [.os b 0 len]) :: ds) = some (.agg (cs ++ [.sl rows]) :: rs) := by
    show (pur h 62 _).bind _ = _
    rw [e]
    simp only [Option.bind_some, hr, Option.map_some]
  show (pur h 63 d).bind _ = _
  rw [hd]
  simp only [Option.bind_some, e2, Option.map_some]
end
end Go.Pv

/- A call that hands over own memory and returns a struct whose last cell is a new list. -/
namespace Go.Pv
section
variable {P : Program} {K : X → St → Prop} {env : Env} {hp : Hp} {nx n id : Nat} {s : Tmp}
theorem go_fn_agfr {α : Type} {f : α → List D} {k q : Nat} {l : List α} {cs : List D} {args : List Operand} {ts : Array TypeId} {g : FuncId} {args' : List D} (hp' : purL (lkH hp) 64 (args.map (evalD env)) = some args') (hc : Contract P g args' (.ret (.agg (cs ++ [.fr k (l.map f)])))) (hf : ScalF f k) (hcs : cs.all cellP = true) (hq : cs.length = q) (hw : Nat.ble q 31 = true)
    (hr : cs.all scal1 = true) (hd : okDst n (some s) = true)
    (h : K .normal ⟨(s, .agg (cs ++ [.os (id + q) 0 l.length])) :: env, (id + q, ⟨k, true, l.map f⟩) :: hp, nx, n⟩) : evOp P (.call { callee := .value (.func g), args := args.toArray, argTypes := ts }) id (some s) ⟨env, hp, nx, n⟩ K := by
  subst hq
  have hw' := Nat.le_of_ble_eq_true hw
  refine go_call_fn hp' hc ?_ (by simp [widR, widE]; omega) hd ?_
  · have : refless (.agg (cs ++ [.fr k (l.map f)])) = true := by
      show (cs ++ [D.fr k (l.map f)]).all reflC = true
      rw [List.all_append, Bool.and_eq_true]
      refine ⟨List.all_eq_true.2 fun c hc => ?_, by simp only [List.all_cons, List.all_nil, Bool.and_true]; exact scalR_map hf l⟩
      have h1 := List.all_eq_true.1 hcs c hc
      have h2 := List.all_eq_true.1 hr c hc
      cases c <;> first | (cases h1; done) | (cases h2; done) | rfl
    rw [this, Bool.or_true]
  have e : adopt id (.agg (cs ++ [.fr k (l.map f)])) = (.agg (cs ++ [.os (id + cs.length) 0 l.length]), [(id + cs.length, ⟨k, true, l.map f⟩)]) := by
    simp [adopt, adE, adL_cells hcs, flat_map hf]
  rw [e]
  exact h
end
end Go.Pv

/- Scopes and labels. -/
namespace Go.Pv
section
variable {P : Program} {K : X → St → Prop} {st : St}
theorem go_scope {c : Code} (h : ev P c K st) : ev P (.scope c) K st := h
theorem go_label {l : Nat} (h : K .normal st) : ev P (.label l) K st := h
end
section
variable {P : Program} {K : X → St → Prop} {env : Env} {hp : Hp} {nx n id : Nat} {s : Tmp} {x y u v : Operand} {t : TypeId}
theorem go_bs4_int {e : Nat} {z : D} {k k2 k3 k4 : IntKind} {a b c d : Int} [hs : TSlice P t e 1] [hz : TZero P e z] (h1 : evalD env x = .int k a) (h2 : evalD env y = .int k2 b) (h3 : evalD env u = .int k3 c) (h4 : evalD env v = .int k4 d) (hzl : (cellsD z).length = 1) (hd : okDst n (some s) = true)
    (hk : K .normal ⟨(s, .os id 0 4) :: env, (id, ⟨1, true, [[.int k a], [.int k2 b], [.int k3 c], [.int k4 d]]⟩) :: hp, nx, n⟩) : evOp P (.buildSlice t 4 #[(0, x), (1, y), (2, u), (3, v)]) id (some s) ⟨env, hp, nx, n⟩ K := by
  have ho : op1 P (evalD env) (.buildSlice t 4 #[(0, x), (1, y), (2, u), (3, v)]) = some (false, ⟨1, true, [[.int k a], [.int k2 b], [.int k3 c], [.int k4 d]]⟩) := by
    simp only [op1, hs.u, hz.h, Option.bind_some]
    rw [if_neg (by decide), if_pos ⟨hz.k, by rw [hzl, hs.c], by rw [hs.c]; decide, by rw [hs.c]; decide⟩]
    simp only [List.map_cons, List.map_nil, h1, h2, h3, h4, hs.c]
    rfl
  unfold evOp
  simp only [op0, ho]
  exact ⟨hd, hk⟩
end
end Go.Pv

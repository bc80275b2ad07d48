import Derived.Test.YtdedpndkohfgbaaSO
/- Part of the proofs over Ytdedpndkohfgbaa: PwQ, PwR. -/
set_option linter.unusedVariables false
set_option linter.unusedSimpArgs false
set_option linter.unnecessarySimpa false
/- A call that hands over own memory and returns a struct whose last cell is a new list. -/
namespace Go.Pv
section
variable {P : Program} {K : X → St → Prop} {env : Env} {hp : Hp} {nx n id : Nat} {s : Tmp}
theorem go_fn_agfr {α : Type} {f : α → List D} {k q : Nat} {l : List α} {cs : List D} {args : List Operand} {ts : Array TypeId} {g : FuncId} {args' : List D} (hp' : purL (lkH hp) 64 (args.map (evalD env)) = some args') (hc : Contract P g args' (.ret (.agg (cs ++ [.fr k (l.map f)])))) (hf : ScalF f k) (hcs : cs.all cellP = true) (hq : cs.length = q) (hw : Nat.ble q 31 = true)
    (hr : cs.all scal1 = true) (hd : okDst n (some s) = true)
    (h : K .normal ⟨(s, .agg (cs ++ [.os (id + q) 0 l.length])) :: env, (id + q, ⟨k, true, l.map f⟩) :: hp, nx, n⟩) : evOp P (.call { callee := .value (.func g), args := args.toArray, argTypes := ts }) id (some s) ⟨env, hp, nx, n⟩ K := by
  subst hq
  have hw' := Nat.le_of_ble_eq_true hw
  refine go_call_fn hp' hc ?_ (by simp [widR, widE]; omega) hd ?_
  · have : refless (.agg (cs ++ [.fr k (l.map f)])) = true := by
      show (cs ++ [D.fr k (l.map f)]).all reflC = true
      rw [List.all_append, Bool.and_eq_true]
      refine ⟨List.all_eq_true.2 fun c hc => ?_, by simp only [List.all_cons, List.all_nil, Bool.and_true]; exact scalR_map hf l⟩
      have h1 := List.all_eq_true.1 hcs c hc
      have h2 := List.all_eq_true.1 hr c hc
      cases c <;> first | (cases h1; done) | (cases h2; done) | rfl
    rw [this, Bool.or_true]
  have e : adopt id (.agg (cs ++ [.fr k (l.map f)])) = (.agg (cs ++ [.os (id + cs.length) 0 l.length]), [(id + cs.length, ⟨k, true, l.map f⟩)]) := by
    simp [adopt, adE, adL_cells hcs, flat_map hf]
  rw [e]
  exact h
end
end Go.Pv

/- Scopes and labels. -/
namespace Go.Pv
section
variable {P : Program} {K : X → St → Prop} {st : St}
theorem go_scope {c : Code} (h : ev P c K st) : ev P (.scope c) K st := h
theorem go_label {l : Nat} (h : K .normal st) : ev P (.label l) K st := h
end
section
variable {P : Program} {K : X → St → Prop} {env : Env} {hp : Hp} {nx n id : Nat} {s : Tmp} {x y u v : Operand} {t : TypeId}
theorem go_bs4_int {e : Nat} {z : D} {k k2 k3 k4 : IntKind} {a b c d : Int} [hs : TSlice P t e 1] [hz : TZero P e z] (h1 : evalD env x = .int k a) (h2 : evalD env y = .int k2 b) (h3 : evalD env u = .int k3 c) (h4 : evalD env v = .int k4 d) (hzl : (cellsD z).length = 1) (hd : okDst n (some s) = true)
    (hk : K .normal ⟨(s, .os id 0 4) :: env, (id, ⟨1, true, [[.int k a], [.int k2 b], [.int k3 c], [.int k4 d]]⟩) :: hp, nx, n⟩) : evOp P (.buildSlice t 4 #[(0, x), (1, y), (2, u), (3, v)]) id (some s) ⟨env, hp, nx, n⟩ K := by
  have ho : op1 P (evalD env) (.buildSlice t 4 #[(0, x), (1, y), (2, u), (3, v)]) = some (false, ⟨1, true, [[.int k a], [.int k2 b], [.int k3 c], [.int k4 d]]⟩) := by
    simp only [op1, hs.u, hz.h, Option.bind_some]
    rw [if_neg (by decide), if_pos ⟨hz.k, by rw [hzl, hs.c], by rw [hs.c]; decide, by rw [hs.c]; decide⟩]
    simp only [List.map_cons, List.map_nil, h1, h2, h3, h4, hs.c]
    rfl
  unfold evOp
  simp only [op0, ho]
  exact ⟨hd, hk⟩
end
end Go.Pv

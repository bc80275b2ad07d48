import Derived.Test.YtdedpndkohfgbaaGreatNAB
import Derived.OpenShut
import Derived.Below
import Derived.ChangeOld
import Derived.Carry
import Derived.Handed
import Derived.ProofKit
import Derived.ChangeShapes
import Derived.RowKit
/- Part of the proofs over YtdedpndkohfgbaaGreat: PwA, PwB, PwC, PwD, PwE, PwF, PwG, PwAa, PwI, PwH, PwJ, PwK, PwL. -/
set_option linter.unusedVariables false
set_option linter.unusedSimpArgs false
set_option linter.unnecessarySimpa false
/- A function's contract from its code. -/
namespace Go.Pv


section
variable {P : Program} {w w' w0 : World} {pu Q : Nat → Prop} {S : Frm} {ow owX : Nat → Ow} {base : Nat} {hp : Nat → Option Blk}

def resOne (tmps : Array Value) : ResultVar → Sem Value
  | .tmp t => pure (tmps.getD t undef)
  | .cell a t => do loadVar t (← asAddr (tmps.getD a undef))

theorem loadVar_ok (hm : Mem base w pu ow hp) {t : TypeId} {a : Value} {c d : D} (ha : Rep w pu ow a c) (h : loadD P hp t c = some d) :
    ∃ v, ((asAddr a).bind fun x => loadVar t x).run P w = .ok v w ∧ Rep w pu ow v d := by
  unfold loadD at h
  split at h
  · obtain ⟨b, off, f, rfl, _, hm', hf⟩ := ha.ptr_inv
    obtain ⟨v, h1, h2⟩ := run_loadVar_of (cells_of_ptr hm' hf) h
    exact ⟨v, h1, h2⟩
  · rename_i b row off
    obtain ⟨blk, hb, h⟩ := Option.bind_eq_some_iff.1 h
    have hblk := hm.blk b blk hb
    have hd : ow b ≠ .dead := fun hd => by rw [hd] at hblk; exact hblk.2
    obtain ⟨g, o, k, sz, hat, rfl⟩ := ha.op_inv hd
    rw [hat] at hblk
    obtain ⟨v, h1, h2⟩ := run_loadVar_of (P := P) (w := w) (pu := pu) (ow := ow) (b := g) (off := o + row * k + off) (cs := (getRow blk.rows row).drop off) (fun j c hj => by
      rw [List.getElem?_drop] at hj
      obtain ⟨v, h1, h2⟩ := hblk.cell (cellAt_some hj)
      exact ⟨v, by rw [← h1]; congr 2; omega, h2⟩) h
    exact ⟨v, h1, h2⟩
  · cases h

theorem resOne_ok {st : St} {a : Act} (hm : Mem base w pu ow (lkH st.hp)) (he : EnvOK w pu ow st.env a) {rv : ResultVar} {d : D} (h : resD P st rv = some d) :
    ∃ v, (resOne a.tmps rv).run P w = .ok v w ∧ Rep w pu ow v d := by
  cases rv with
  | tmp t =>
    simp only [resD, Option.some.injEq] at h
    subst h
    exact ⟨_, rfl, he t⟩
  | cell a' t => exact loadVar_ok hm (he a') h

theorem resAll_ok {st : St} {a : Act} (hm : Mem base w pu ow (lkH st.hp)) (he : EnvOK w pu ow st.env a) : ∀ (rvs : List ResultVar) (ds : List D), rvs.map (resD P st) = ds.map some →
    ∃ vs : List Value, (rvs.mapM (resOne a.tmps)).run P w = .ok vs w ∧ vs.length = ds.length ∧ ∀ (i : Nat) (v : Value) (d : D), vs[i]? = some v → ds[i]? = some d → Rep w pu ow v d
  | [], [], _ => ⟨[], by simp, rfl, fun i v d h => by simp at h⟩
  | [], _ :: _, h => by simp at h
  | _ :: _, [], h => by simp at h
  | rv :: rvs, d :: ds, h => by
    simp only [List.map_cons, List.cons.injEq] at h
    obtain ⟨v, h1, h2⟩ := resOne_ok hm he h.1
    obtain ⟨vs, h3, h4, h5⟩ := resAll_ok hm he rvs ds h.2
    refine ⟨v :: vs, ?_, by simp [h4], fun i v' d' e1 e2 => ?_⟩
    · simp [List.mapM_cons, h1, h3]
    · cases i with
      | zero => simp at e1 e2; subst e1 e2; exact h2
      | succ i => exact h5 i v' d' (by simpa using e1) (by simpa using e2)

theorem results_ok {fn : Func} {st : St} {a : Act} (hm : Mem base w pu ow (lkH st.hp)) (he : EnvOK w pu ow st.env a) {ds : List D} (h : fn.results.toList.map (resD P st) = ds.map some) :
    ∃ vs : List Value, (results fn a.tmps).run P w = .ok (match vs with | [v] => v | vs => .tuple vs.toArray) w ∧ vs.length = ds.length ∧ ∀ (i : Nat) (v : Value) (d : D), vs[i]? = some v → ds[i]? = some d → Rep w pu ow v d := by
  obtain ⟨vs, h1, h2, h3⟩ := resAll_ok (P := P) hm he _ _ h
  refine ⟨vs, ?_, h2, h3⟩
  have hr : results fn a.tmps = (do let vs ← fn.results.mapM (resOne a.tmps); pure (if h : vs.size = 1 then vs[0] else .tuple vs)) := by
    unfold results
    congr 1
  rw [hr, Array.mapM_eq_mapM_toList]
  simp only [Sem.run_bind, Sem.run_map, h1, Result.andThen_ok, Sem.run_pure]
  congr 1
  match vs with
  | [] => simp
  | [v] => simp
  | v :: u :: vs => simp

theorem adT_nil {n : Nat} : adT n [] = ([], []) := rfl

/-- What the results come to. -/
theorem fin_core {fn : Func} {st : St} {a : Act} (hi : InvI w0 S st.nx st a w) {ss : List Src} {ds rs fl : List D} (h1 : fn.results.toList.map (resD P st) = ds.map some) (h2 : (frsOf ss).Nodup) (hlen : rs.length = ds.length) (h5 : rs.length = 1 → rs.all notTup = true)
    (HF : ∀ {pu Q : Nat → Prop} {ow owX R : Nat → Ow} (n : Nat), Mem w0.heap.size w pu ow (lkH st.hp) → Mem w0.heap.size w pu owX (without (frsOf ss) (lkH st.hp)) → (∀ b, owX b = ow b ∨ owX b = .dead) → (∀ g, pu g → Q g) → (∀ b g o k sz, owX b = .lies g o k sz → Q g) → (∀ b', n ≤ b' → R b' = owF ow n ss fl b') →
      (∀ b' blk', lkH (adT n rs).2 b' = some blk' → BlkOK w Q R (R b') blk') ∧ (∀ b', n ≤ b' → lkH (adT n rs).2 b' = none → R b' = .pending) ∧
      (adT n rs).1.length = ds.length ∧ ∀ (i : Nat) (v : Value) (d r : D), ds[i]? = some d → (adT n rs).1[i]? = some r → Rep w pu ow v d → Rep w Q R v r) :
    a.defers = [] ∧ ∃ v, (results fn a.tmps).run P w = .ok v w ∧ After w0 S.z (.ret (tupOf rs)) (.returned v) w := by
  obtain ⟨pu, ow, hm, he, hb, hz, hid, hs, hd⟩ := hi
  obtain ⟨vs, g1, g2, g3⟩ := results_ok (P := P) (fn := fn) hm he h1
  refine ⟨hd.1, _, g1, hb, ?_⟩
  let owX : Nat → Ow := fun b => if b ∈ frsOf ss then .dead else ow b
  have hX : ∀ b, owX b = ow b ∨ owX b = .dead := fun b => by simp only [owX]; split <;> simp
  have hXe : Ext w pu ow w pu owX := ⟨fun g hg => ⟨hg, rfl⟩, fun b => .inr (hX b)⟩
  have hXat : ∀ b g o k sz, owX b = .lies g o k sz → b ∉ frsOf ss ∧ ow b = .lies g o k sz := fun b g o k sz h => by
    simp only [owX] at h
    split at h
    · cases h
    · rename_i hn; exact ⟨hn, h⟩
  have hXon : ∀ b g, (owX b).on g → b ∉ frsOf ss ∧ (ow b).on g := fun b g h => by
    simp only [owX] at h
    split at h
    · exact h.elim
    · rename_i hn; exact ⟨hn, h⟩
  have hmX : Mem w0.heap.size w pu owX (without (frsOf ss) (lkH st.hp)) := by
    refine ⟨fun b blk hb => ?_, fun b hb => ?_, fun b b' g e e' => hm.injO b b' g (hXon _ _ e).2 (hXon _ _ e').2, fun b g e => hm.ownO b g (hXon _ _ e).2, hm.zone⟩
    · simp only [without] at hb
      split at hb
      · cases hb
      · rename_i hn
        have : owX b = ow b := if_neg hn
        rw [this]
        exact (hm.blk b blk hb).mono hXe fun _ _ => rfl
    · simp only [without] at hb
      split at hb
      · rename_i hn; left; exact if_pos hn
      · rename_i hn
        have : owX b = ow b := if_neg hn
        rw [this]
        exact hm.none b hb
  let Q : Nat → Prop := fun g => pu g ∨ ∃ b o k sz, owX b = .lies g o k sz
  have hzQ : ∀ g, pu g → Q g := fun g h => .inl h
  have hzX : ∀ b g o k sz, owX b = .lies g o k sz → Q g := fun b g o k sz h => .inr ⟨b, o, k, sz, h⟩
  refine ⟨Q, fun g hg => ?_, _, rfl, fun n => ?_⟩
  · rcases hg with hg | ⟨b, o, k, sz, hat⟩
    · exact ⟨hm.zone g hg, hz g hg⟩
    · have := (hXat _ _ _ _ _ hat).2
      exact ⟨hm.at_lt this, .inr (hm.own b g o k sz this).1⟩
  · let R : Nat → Ow := fun b' => if n ≤ b' then owF ow n ss fl b' else .pending
    obtain ⟨f1, f2, f3, f4⟩ := HF (R := R) n hm hmX hX hzQ hzX (fun b' hb' => if_pos hb')
    have hRat : ∀ b' g, (R b').on g → (owF ow n ss fl b').on g := fun b' g h => by
      simp only [R] at h
      split at h
      · exact h
      · exact h.elim
    have hMem : Mem w0.heap.size w Q R (lkH (adT n rs).2) := by
      refine ⟨f1, fun b' hb' => .inr ?_, fun b1 b2 g e1 e2 => owF_inj hm.injO h2 (hRat _ _ e1) (hRat _ _ e2), fun b' g e => ?_, fun g hg => ?_⟩
      · rcases Nat.lt_or_ge b' n with h | h
        · exact if_neg (by omega)
        · exact f2 b' h hb'
      · obtain ⟨_, c, hc, hat⟩ := owF_at (hRat _ _ e)
        obtain ⟨q1, q2⟩ := hm.ownO c g hat
        refine ⟨q1, fun hq => ?_⟩
        rcases hq with hq | ⟨b, o2, k2, sz2, hb2⟩
        · exact q2 hq
        · obtain ⟨q3, q4⟩ := hXat _ _ _ _ _ hb2
          have := hm.injO b c _ (Ow.on_lies q4) hat
          subst this
          exact q3 hc
      · rcases hg with hg | ⟨b, o, k, sz, hat⟩
        · exact hm.zone g hg
        · exact hm.at_lt (hXat _ _ _ _ _ hat).2
    have hpend : ∀ b', lkH (adT n rs).2 b' = none → R b' = .pending := fun b' hb' => by
      rcases Nat.lt_or_ge b' n with h | h
      · exact if_neg (by omega)
      · exact f2 b' h hb'
    have htup : ∀ (vs : List Value), vs.length = ds.length → (∀ (i : Nat) (v : Value) (d : D), vs[i]? = some v → ds[i]? = some d → Rep w pu ow v d) → Rep w Q R (.tuple vs.toArray) (.tup (adT n rs).1) := fun vs hvl hvs => by
      refine .tup _ _ (by simp [f3, hvl]) fun i v r e1 e2 => ?_
      have hi : i < ds.length := by
        have := (List.getElem?_eq_some_iff.1 e2).1
        omega
      exact f4 i v ds[i] r (List.getElem?_eq_getElem hi) e2 (hvs i v ds[i] (by simpa using e1) (List.getElem?_eq_getElem hi))
    match rs, vs, hlen, g2, h5 with
    | [], [], hl, _, _ => exact ⟨R, hMem, htup [] (by simpa using hl) (fun i v d h => by simp at h), hpend⟩
    | [], _ :: _, hl, hg, _ => simp only [List.length_nil, List.length_cons] at hl hg; omega
    | _ :: _, [], hl, hg, _ => simp only [List.length_nil, List.length_cons] at hl hg; omega
    | [_], _ :: _ :: _, hl, hg, _ => simp only [List.length_nil, List.length_cons] at hl hg; omega
    | _ :: _ :: _, [_], hl, hg, _ => simp only [List.length_nil, List.length_cons] at hl hg; omega
    | r1 :: r2 :: rs, v1 :: v2 :: vs, hl, hg, _ => exact ⟨R, hMem, htup _ hg g3, hpend⟩
    | [r], [v], hl, hg, h5 =>
      have hnt : notTup r = true := by simpa using h5 rfl
      have had : adopt n r = adE n r := by cases r <;> first | rfl | cases hnt
      have h2' : (adT n [r]).2 = (adE n r).2 := by simp [adT]
      refine ⟨R, ?_, ?_, ?_⟩
      · show Mem _ _ _ _ (lkH (adopt n r).2)
        rw [had, ← h2']; exact hMem
      · show Rep _ _ _ v (adopt n r).1
        rw [had]
        have hdl : 0 < ds.length := by simp at hl; omega
        exact f4 0 v ds[0] _ (List.getElem?_eq_getElem hdl) (by simp [adT]) (g3 0 v ds[0] rfl (List.getElem?_eq_getElem hdl))
      · show ∀ b, lkH (adopt n r).2 b = none → R b = .pending
        rw [had, ← h2']; exact hpend

theorem finL_length {hp hpX : Nat → Option Blk} : ∀ {ss : List Src} {ds rs : List D}, finL hp hpX ss ds rs → rs.length = ds.length
  | [], [], [], _ => rfl
  | _ :: _, _ :: _, _ :: _, h => by simp [finL_length h.2]
  | [], _ :: _, _, h => h.elim
  | [], [], _ :: _, h => h.elim
  | _ :: _, [], _, h => by simp [finL] at h
  | _ :: _, _ :: _, [], h => by simp [finL] at h

theorem fin_after {fn : Func} {st : St} {a : Act} {r : D} (hi : InvI w0 S st.nx st a w) (hf : Fin P fn.results.toList st r) :
    a.defers = [] ∧ ∃ v, (results fn a.tmps).run P w = .ok v w ∧ After w0 S.z (.ret r) (.returned v) w := by
  rcases hf with ⟨ss, ds, rs, h1, h2, h3, rfl, h5⟩ | ⟨ss, ds, rs, h1, h2, h3, rfl, h5, h6, h7⟩
  · exact fin_core hi h1 h2 (finL_length h3) h5 fun {pu Q ow owX R} n hm hmX hX hz hzX hR => fin_ok hm hmX hX hz hzX ss ds rs n h3 hR
  · have hlen : rs.length = ds.length := by have := congrArg List.length h6; simpa using this.symm
    refine fin_core (fl := rs.flatMap cellsD) hi h1 h2 hlen h5 fun {pu Q ow owX R} n hm hmX hX hz hzX hR => ?_
    obtain ⟨f1, f2, f3, f4⟩ := fin_ok hm hmX hX hz hzX ss _ _ n h3 hR
    have e := adT_flatten (n := n) h7
    have hl : ∀ {rs : List D} {m : Nat}, (adT m rs).1.length = rs.length := by
      intro rs
      induction rs with
      | nil => intro m; rfl
      | cons r rs ih => intro m; simp only [adT, List.length_cons, ih]
    refine ⟨fun b' blk' h => f1 b' blk' (by rw [← e]; exact h), fun b' hb h => f2 b' hb (by rw [← e]; exact h), hl.trans hlen, ?_⟩
    exact flat_rep (R1 := Rep w pu ow) (R2 := Rep w Q R) (fun v cs h => h.agg_inv) (fun vs cs h1 h2 => .agg vs cs h1 h2) h6 h7 f4

def argsE : Nat → List D → Env
  | _, [] => []
  | n, d :: ds => (n, d) :: argsE (n + 1) ds

theorem lkE_argsE : ∀ {ds : List D} {n s : Nat}, lkE (argsE n ds) s = if n ≤ s then ds.getD (s - n) .undef else .undef
  | [], n, s => by simp [argsE, lkE]
  | d :: ds, n, s => by
    simp only [argsE, lkE, lkE_argsE (ds := ds)]
    by_cases h : s = n
    · subst h; simp
    · rw [if_neg h]
      by_cases h2 : n ≤ s
      · rw [if_pos h2, if_pos (by omega), show s - n = (s - (n + 1)) + 1 by omega, List.getD_cons_succ]
      · rw [if_neg h2, if_neg (by omega)]

theorem contract_of {f : FuncId} {fn : Func} {c : Code} {ds : List D} {out : Outc} (hmix : P.follows .mixedOrders = true) (hf : P.funcs[f]? = some fn) (hb : fn.body = some c) (hname : (fn.name == "runtime.NumGoroutine") = false)
    (hn : ds.length ≤ fn.ntmps) (h : ev P c (finK P fn.results.toList out) ⟨argsE 0 ds, [], 0, fn.ntmps⟩) : Contract P f ds out := by
  refine ⟨⟨fn, hf, by rw [hb]; rfl, hname⟩, fun S w args hS ⟨hlen, hargs⟩ => ?_⟩
  refine calls_of_wp hf hb ?_
  have hi : InvI w ⟨S, w, S, fun _ => .pending⟩ 0 ⟨argsE 0 ds, [], 0, fn.ntmps⟩ { tmps := args ++ Array.replicate (fn.ntmps - args.size) undef, defers := [] } w := by
    refine ⟨S, fun _ => .pending, ⟨fun b blk hb => by simp [lkH] at hb, fun b _ => .inr rfl, fun b b' g h => h.elim, fun b g h => h.elim, hS⟩, fun s => ?_, Below.refl _ _, fun g hg => .inl hg, fun b _ => rfl, by simp; omega, rfl, fun g hg => ⟨hg, rfl⟩, fun b => .inl rfl⟩
    simp only
    rw [lkE_argsE, if_pos (Nat.zero_le _), Nat.sub_zero, Array.getD_eq_getD_getElem?, Array.getElem?_append]
    split
    · rename_i hs
      rw [Array.getElem?_eq_getElem hs, List.getD_eq_getElem?_getD, List.getElem?_eq_getElem (by omega)]
      simp only [Option.getD_some]
      exact .pure _ _ (hargs s _ _ (Array.getElem?_eq_getElem hs) (List.getElem?_eq_getElem (by omega)))
    · rename_i hs
      rw [List.getD_eq_getElem?_getD, List.getElem?_eq_none (by omega)]
      exact .pure _ _ (.undef _)
  refine wp_mono (ev_ok hmix c _ _ _ w (fun _ => rfl) hi h) fun e a w' he => ?_
  cases e with
  | normal =>
    obtain ⟨st, ⟨r, rfl, hfin⟩, hi'⟩ := he
    exact fin_after hi' hfin
  | ret =>
    obtain ⟨st, ⟨r, rfl, hfin⟩, hi'⟩ := he
    exact fin_after hi' hfin
  | panic chain =>
    obtain ⟨d, ⟨st, hk⟩, hdf, hbl, Q, v, rfl, hQ, hv⟩ := he
    simp only [finK] at hk
    subst hk
    exact ⟨hdf, hbl, Q, hQ, v, rfl, hv⟩
  | exit id => obtain ⟨st, hk, _⟩ := he; exact hk.elim
  | _ => exact he.elim

end
end Go.Pv

/- Evaluation, step by step, for simp. -/
namespace Go.Pv

def kOps (P : Program) (all rest : List Oper) (id : Nat) (K : X → St → Prop) : X → St → Prop
  | .normal, st => evOps P all rest id st K
  | x, st => K x st

section
variable {P : Program} {E : St → St → Prop} {K : X → St → Prop} {st : St} {env : Env} {hp : Hp} {nx n id : Nat} {dst : Option Tmp} {all rest : List Oper}

theorem ev_skip : evG E P .skip K st = K .normal st := rfl
theorem ev_label {l : Nat} : evG E P (.label l) K st = K .normal st := rfl
theorem go_seq {a b : Code} (h : evG E P a (kSeq (evG E P b K) K) st) : evG E P (.seq a b) K st := .inl h
theorem go_seq_as {a b : Code} (s1 : St) (h : evG E P a (kSeq (fun st' => E st' s1) K) st) (h1 : evG E P b K s1) : evG E P (.seq a b) K st := .inr ⟨s1, h, h1⟩
theorem ev_exit {i : Nat} : evG E P (.exit i) K st = K (.exit i) st := rfl
theorem ev_ret : evG E P .ret K st = K .ret st := rfl
theorem ev_scope {c : Code} : evG E P (.scope c) K st = evG E P c K st := rfl
theorem ev_block {i : Nat} {c : Code} : evG E P (.block i c) K st = evG E P c (kBlock i K) st := rfl

theorem ev_cond {c : Operand} {a b : Code} : evG E P (.cond c a b) K ⟨env, hp, nx, n⟩ = ∃ t, evalD env c = .bool t ∧ (t = true → evG E P a K ⟨env, hp, nx, n⟩) ∧ (t = false → evG E P b K ⟨env, hp, nx, n⟩) := rfl

theorem bool_ex {p : Bool} {Q : Bool → Prop} : (∃ t, D.bool p = .bool t ∧ Q t) = Q p := by
  apply propext
  constructor
  · rintro ⟨t, h, hq⟩; injection h with h; subst h; exact hq
  · exact fun h => ⟨p, rfl, h⟩

theorem ev_draw (m : Nat) {i : Nat} {l : List Oper} (hc : chkDraw l m = true) (hdom : (hp.all fun x => decide (x.1 < nx)) = true) (h : evOps P l (l.take m) nx ⟨env, hp, nx, n⟩ (onlyN fun st' => evOps P l (l.drop m) st'.nx st' K)) :
    evG E P (.region i l.toArray true) K ⟨env, hp, nx, n⟩ := .inl ⟨m, hc, hdom, h⟩

theorem kSeq_normal {f : St → Prop} : kSeq f K .normal st = f st := rfl
theorem kSeq_exit {f : St → Prop} {i : Nat} : kSeq f K (.exit i) st = K (.exit i) st := rfl
theorem kSeq_ret {f : St → Prop} : kSeq f K .ret st = K .ret st := rfl
theorem kSeq_pan {f : St → Prop} {d : D} : kSeq f K (.pan d) st = K (.pan d) st := rfl
theorem kBlock_normal {i : Nat} : kBlock i K .normal st = K .normal st := rfl
theorem kBlock_ret {i : Nat} : kBlock i K .ret st = K .ret st := rfl
theorem kBlock_pan {i : Nat} {d : D} : kBlock i K (.pan d) st = K (.pan d) st := rfl
theorem kBlock_exit {i j : Nat} : kBlock i K (.exit j) st = if j = i then K .normal st else K (.exit j) st := rfl
theorem kOps_normal : kOps P all rest id K .normal st = evOps P all rest id st K := rfl
theorem kOps_pan {d : D} : kOps P all rest id K (.pan d) st = K (.pan d) st := rfl
theorem onlyN_normal {f : St → Prop} : onlyN f .normal st = f st := rfl

theorem kOps_eq : (fun x st' => match x with | .normal => evOps P all rest id st' K | x => K x st') = kOps P all rest id K := by
  funext x st'
  cases x <;> rfl

theorem evOps_nil : evOps P all [] id ⟨env, hp, nx, n⟩ K = K .normal ⟨env, hp, id, n⟩ := rfl

theorem evOps_none {op : Op} {ty : TypeId} {pos : String} {af : Array Edge} : evOps P all ({ dst := dst, op := op, type := ty, pos := pos, after := af, guard := none } :: rest) id st K = evOp P op id dst st (kOps P all rest (id + 32) K) := by
  rw [← kOps_eq]; rfl

theorem evOps_some {op : Op} {ty : TypeId} {pos : String} {af : Array Edge} {j : Nat} {want : Bool} : evOps P all ({ dst := dst, op := op, type := ty, pos := pos, after := af, guard := some (j, want) } :: rest) id ⟨env, hp, nx, n⟩ K =
    ∃ r, guardD all env j = some r ∧ (∀ b, r = some b → (b = want → evOp P op id dst ⟨env, hp, nx, n⟩ (kOps P all rest (id + 32) K)) ∧ (b = (!want) → okDst n dst = true ∧ evOps P all rest (id + 32) ⟨putE dst .skip env, hp, nx, n⟩ K)) ∧
      (r = none → okDst n dst = true ∧ evOps P all rest (id + 32) ⟨putE dst .skip env, hp, nx, n⟩ K) := by
  rw [← kOps_eq]
  apply propext
  simp only [evOps, St.put]
  cases hg : guardD all env j with
  | none => simp
  | some r =>
    cases r with
    | none => simp
    | some b =>
      simp only
      constructor
      · intro h
        exact ⟨_, rfl, fun b' hb => by injection hb with hb; subst hb; exact h, fun hn => by cases hn⟩
      · rintro ⟨r, h, h1, _⟩; injection h with h; subst h; exact h1 b rfl

/-- Guards, by what they say. -/
theorem guard_bool {p want : Bool} {A B : Prop} : (∃ r, some (some p) = some r ∧ (∀ b, r = some b → (b = want → A) ∧ (b = (!want) → B)) ∧ (r = none → B)) = ((p = want → A) ∧ (p = (!want) → B)) := by
  apply propext
  constructor
  · rintro ⟨r, h, h1, _⟩; injection h with h; subst h; exact h1 p rfl
  · intro h
    exact ⟨_, rfl, fun b hb => by injection hb with hb; subst hb; exact h, fun hn => by cases hn⟩

theorem guard_none {want : Bool} {A B : Prop} : (∃ r, some (none : Option Bool) = some r ∧ (∀ b, r = some b → (b = want → A) ∧ (b = (!want) → B)) ∧ (r = none → B)) = B := by
  apply propext
  constructor
  · rintro ⟨r, h, _, h2⟩; injection h with h; subst h; exact h2 rfl
  · intro h
    exact ⟨_, rfl, fun b hb => absurd hb (by simp), fun _ => h⟩

theorem guardD_def {j : Nat} : guardD all env j = match (all[j]?).bind (·.dst) with
    | some s => (match lkE env s with
      | .bool b => some (some b)
      | .skip => some none
      | _ => none)
    | none => some none := rfl

theorem stepK_def {d : D} {env' : Env} {hp' : Hp} {st : St} : stepK st dst d env' hp' K = (okDst st.n dst = true ∧ K .normal ⟨putE dst d env', hp', st.nx, st.n⟩) := rfl

theorem evOp_op0 {o : Op} (hs : evOp P o id dst ⟨env, hp, nx, n⟩ K = match op0 P (evalD env) (lkH hp) o with
    | some d => stepK ⟨env, hp, nx, n⟩ dst d env hp K
    | none =>
      match op1 P (evalD env) o with
      | some (ptr, blk) => stepK ⟨env, hp, nx, n⟩ dst (outD id ptr blk) env ((id, blk) :: hp) K
      | none =>
        match nilB P (evalD env) (lkH hp) o with
        | some bs => ∀ b ∈ bs, stepK ⟨env, hp, nx, n⟩ dst (.bool b) env hp K
        | none => False) (h1 : op1 P (evalD env) o = none) (h2 : nilB P (evalD env) (lkH hp) o = none) : evOp P o id dst ⟨env, hp, nx, n⟩ K = ∃ d, op0 P (evalD env) (lkH hp) o = some d ∧ okDst n dst = true ∧ K .normal ⟨putE dst d env, hp, nx, n⟩ := by
  rw [hs, h1, h2]
  apply propext
  cases op0 P (evalD env) (lkH hp) o <;> simp [stepK]

section
variable {x y z : Operand} {t t' : TypeId}

theorem evOp_move : evOp P (.move x) id dst ⟨env, hp, nx, n⟩ K = (okDst n dst = true ∧ K .normal ⟨putE dst (evalD env x) env, hp, nx, n⟩) := rfl
theorem evOp_assign : evOp P (.assign x) id dst ⟨env, hp, nx, n⟩ K = (okDst n dst = true ∧ K .normal ⟨putE dst (evalD env x) env, hp, nx, n⟩) := rfl
theorem evOp_load : evOp P (.load t x) id dst ⟨env, hp, nx, n⟩ K = ∃ d, loadD P (lkH hp) t (evalD env x) = some d ∧ okDst n dst = true ∧ K .normal ⟨putE dst d env, hp, nx, n⟩ := evOp_op0 rfl rfl rfl
theorem evOp_nilCheck : evOp P (.nilCheck x) id dst ⟨env, hp, nx, n⟩ K = ∃ d, nilCheckD (lkH hp) (evalD env x) = some d ∧ okDst n dst = true ∧ K .normal ⟨putE dst d env, hp, nx, n⟩ := evOp_op0 rfl rfl rfl
theorem evOp_binOp {op : BinOp} (h : ∃ d, binD P op t (evalD env x) (evalD env y) = some d ∧ okDst n dst = true ∧ K .normal ⟨putE dst d env, hp, nx, n⟩) : evOp P (.binOp op t x y t') id dst ⟨env, hp, nx, n⟩ K := by
  obtain ⟨d, h1, h2, h3⟩ := h
  unfold evOp
  have h0 : op0 P (evalD env) (lkH hp) (.binOp op t x y t') = some d := h1
  simp only [h0]
  exact ⟨h2, h3⟩
theorem evOp_unOp {op : UnOp} : evOp P (.unOp op t x) id dst ⟨env, hp, nx, n⟩ K = ∃ d, unD op (evalD env x) = some d ∧ okDst n dst = true ∧ K .normal ⟨putE dst d env, hp, nx, n⟩ := evOp_op0 rfl rfl rfl
theorem evOp_convert : evOp P (.convert t t' x) id dst ⟨env, hp, nx, n⟩ K = ∃ d, convD P t' t (evalD env x) = some d ∧ okDst n dst = true ∧ K .normal ⟨putE dst d env, hp, nx, n⟩ := evOp_op0 rfl rfl rfl
theorem evOp_pick : evOp P (.pick x y z) id dst ⟨env, hp, nx, n⟩ K = ∃ d, pickD (evalD env x) (evalD env y) (evalD env z) = some d ∧ okDst n dst = true ∧ K .normal ⟨putE dst d env, hp, nx, n⟩ := evOp_op0 rfl rfl rfl
theorem evOp_field {f : Nat} : evOp P (.field t x f) id dst ⟨env, hp, nx, n⟩ K = ∃ d, fieldD P t (evalD env x) f = some d ∧ okDst n dst = true ∧ K .normal ⟨putE dst d env, hp, nx, n⟩ := evOp_op0 rfl rfl rfl
theorem evOp_fieldAddr {f : Nat} : evOp P (.fieldAddr t x f) id dst ⟨env, hp, nx, n⟩ K = ∃ d, fieldAddrD P (lkH hp) t (evalD env x) f = some d ∧ okDst n dst = true ∧ K .normal ⟨putE dst d env, hp, nx, n⟩ := evOp_op0 rfl rfl rfl
theorem evOp_indexAddr : evOp P (.indexAddr t x y) id dst ⟨env, hp, nx, n⟩ K = ∃ d, indexAddrD P (lkH hp) t (evalD env x) (evalD env y) = some d ∧ okDst n dst = true ∧ K .normal ⟨putE dst d env, hp, nx, n⟩ := evOp_op0 rfl rfl rfl
theorem evOp_index : evOp P (.index t x y) id dst ⟨env, hp, nx, n⟩ K = ∃ d, indexD P t (evalD env x) (evalD env y) = some d ∧ okDst n dst = true ∧ K .normal ⟨putE dst d env, hp, nx, n⟩ := evOp_op0 rfl rfl rfl
theorem evOp_extract {i : Nat} : evOp P (.extract x i) id dst ⟨env, hp, nx, n⟩ K = ∃ d, extractD (evalD env x) i = some d ∧ okDst n dst = true ∧ K .normal ⟨putE dst d env, hp, nx, n⟩ := evOp_op0 rfl rfl rfl
theorem evOp_slice {lo hi : Option Operand} : evOp P (.slice t x lo hi none) id dst ⟨env, hp, nx, n⟩ K = ∃ d, sliceD P (lkH hp) t (evalD env x) (lo.map (evalD env)) (hi.map (evalD env)) = some d ∧ okDst n dst = true ∧ K .normal ⟨putE dst d env, hp, nx, n⟩ := evOp_op0 rfl rfl rfl
theorem evOp_makeFunc {fn : Fn} {xs ys : List Operand} : evOp P (.makeFunc fn xs.toArray ys.toArray) id dst ⟨env, hp, nx, n⟩ K = (okDst n dst = true ∧ K .normal ⟨putE dst (.clo fn (xs.map (evalD env)) (ys.map (evalD env))) env, hp, nx, n⟩) := rfl
theorem evOp_len : evOp P (.call { callee := .builtin .len, args := #[x], argTypes := #[t] }) id dst ⟨env, hp, nx, n⟩ K = ∃ d, lenD P (lkH hp) t (evalD env x) = some d ∧ okDst n dst = true ∧ K .normal ⟨putE dst d env, hp, nx, n⟩ := evOp_op0 rfl rfl rfl
theorem evOp_min {xs : List Operand} {ts : Array TypeId} : evOp P (.call { callee := .builtin .min, args := (x :: xs).toArray, argTypes := ts }) id dst ⟨env, hp, nx, n⟩ K = ∃ d, foldD min2D (evalD env x) (xs.map (evalD env)) = some d ∧ okDst n dst = true ∧ K .normal ⟨putE dst d env, hp, nx, n⟩ := evOp_op0 rfl rfl rfl
theorem evOp_max {xs : List Operand} {ts : Array TypeId} : evOp P (.call { callee := .builtin .max, args := (x :: xs).toArray, argTypes := ts }) id dst ⟨env, hp, nx, n⟩ K = ∃ d, foldD max2D (evalD env x) (xs.map (evalD env)) = some d ∧ okDst n dst = true ∧ K .normal ⟨putE dst d env, hp, nx, n⟩ := evOp_op0 rfl rfl rfl

theorem evOp_build {parts : List (Nat × Operand)} : evOp P (.build t parts.toArray) id dst ⟨env, hp, nx, n⟩ K = ∃ d, buildD P t (parts.map fun (i, x) => (i, evalD env x)) = some d ∧ okDst n dst = true ∧ K .normal ⟨putE dst d env, hp, nx, n⟩ := by
  apply propext
  simp only [evOp]
  cases buildD P t (parts.map fun (i, x) => (i, evalD env x)) <;> simp [stepK]

theorem evOp_alloc : evOp P (.alloc t) id dst ⟨env, hp, nx, n⟩ K = ∃ z, zeroD P t = some z ∧ (known z = true ∧ 0 < (cellsD z).length) ∧ okDst n dst = true ∧ K .normal ⟨putE dst (.op id 0 0) env, (id, ⟨(cellsD z).length, flatRows [cellsD z], [cellsD z]⟩) :: hp, nx, n⟩ := by
  apply propext
  simp only [evOp, op0, op1]
  cases zeroD P t with
  | none => simp [nilB]
  | some z =>
    simp only [Option.bind_some, Option.some.injEq, exists_eq_left']
    by_cases h : known z = true ∧ 0 < (cellsD z).length
    · simp only [stepK, outD, if_true, h, true_and, and_self]
    · simp only [h, false_and, if_false, nilB]

theorem evOp_box : evOp P (.box t x) id dst ⟨env, hp, nx, n⟩ K = ((known (evalD env x) = true ∧ 0 < (cellsD (evalD env x)).length) ∧ okDst n dst = true ∧ K .normal ⟨putE dst (.op id 0 0) env, (id, ⟨(cellsD (evalD env x)).length, flatRows [cellsD (evalD env x)], [cellsD (evalD env x)]⟩) :: hp, nx, n⟩) := by
  apply propext
  simp only [evOp, op0, op1]
  by_cases h : known (evalD env x) = true ∧ 0 < (cellsD (evalD env x)).length
  · simp only [stepK, outD, if_true, h, true_and, and_self]
  · simp only [h, false_and, if_false, nilB]

theorem evOp_store : evOp P (.store t x y) id dst ⟨env, hp, nx, n⟩ K = ∃ bb, storeD P (lkH hp) t (evalD env x) (evalD env y) = some bb ∧ okDst n dst = true ∧ K .normal ⟨putE dst .skip env, updH bb.1 bb.2 hp, nx, n⟩ := by
  apply propext
  simp only [evOp]
  cases storeD P (lkH hp) t (evalD env x) (evalD env y) with
  | none => simp
  | some bb => obtain ⟨b, blk⟩ := bb; simp [stepK]

end
end
end Go.Pv

/- Branches, calls, ends. -/
namespace Go.Pv

section
variable {P : Program} {E : St → St → Prop} {K : X → St → Prop} {env : Env} {hp : Hp} {nx n id : Nat} {dst : Option Tmp} {all rest : List Oper}

theorem go_cond {c : Operand} {a b : Code} {t : Bool} (h : evalD env c = .bool t) (h1 : t = true → evG E P a K ⟨env, hp, nx, n⟩) (h2 : t = false → evG E P b K ⟨env, hp, nx, n⟩) : evG E P (.cond c a b) K ⟨env, hp, nx, n⟩ := ⟨t, h, h1, h2⟩

theorem go_cond_t {c : Operand} {a b : Code} {t : Bool} (h : evalD env c = .bool t) (ht : t = true) (h1 : evG E P a K ⟨env, hp, nx, n⟩) : evG E P (.cond c a b) K ⟨env, hp, nx, n⟩ := ⟨t, h, fun _ => h1, fun hf => absurd (ht.symm.trans hf) (by decide)⟩
theorem go_cond_f {c : Operand} {a b : Code} {t : Bool} (h : evalD env c = .bool t) (ht : t = false) (h1 : evG E P b K ⟨env, hp, nx, n⟩) : evG E P (.cond c a b) K ⟨env, hp, nx, n⟩ := ⟨t, h, fun hf => absurd (ht.symm.trans hf) (by decide), fun _ => h1⟩

theorem go_guard {op : Op} {ty : TypeId} {pos : String} {af : Array Edge} {j : Nat} {want p : Bool} (hg : guardD all env j = some (some p)) (h1 : p = want → evOp P op id dst ⟨env, hp, nx, n⟩ (kOps P all rest (id + 32) K))
    (h2 : p = (!want) → okDst n dst = true ∧ evOps P all rest (id + 32) ⟨putE dst .skip env, hp, nx, n⟩ K) : evOps P all ({ dst := dst, op := op, type := ty, pos := pos, after := af, guard := some (j, want) } :: rest) id ⟨env, hp, nx, n⟩ K := by
  rw [evOps_some]
  exact ⟨_, hg, fun b hb => by injection hb with hb; subst hb; exact ⟨h1, h2⟩, fun hn => by cases hn⟩

theorem go_run {op : Op} {ty : TypeId} {pos : String} {af : Array Edge} {j : Nat} {want p : Bool} (hg : guardD all env j = some (some p)) (hp' : p = want) (h1 : evOp P op id dst ⟨env, hp, nx, n⟩ (kOps P all rest (id + 32) K)) :
    evOps P all ({ dst := dst, op := op, type := ty, pos := pos, after := af, guard := some (j, want) } :: rest) id ⟨env, hp, nx, n⟩ K :=
  go_guard hg (fun _ => h1) fun h => by rw [hp'] at h; cases want <;> cases h

theorem go_pass {op : Op} {ty : TypeId} {pos : String} {af : Array Edge} {j : Nat} {want p : Bool} (hg : guardD all env j = some (some p)) (hp' : p = (!want)) (hd : okDst n dst = true) (h1 : evOps P all rest (id + 32) ⟨putE dst .skip env, hp, nx, n⟩ K) :
    evOps P all ({ dst := dst, op := op, type := ty, pos := pos, after := af, guard := some (j, want) } :: rest) id ⟨env, hp, nx, n⟩ K :=
  go_guard hg (fun h => by rw [hp'] at h; cases want <;> cases h) fun _ => ⟨hd, h1⟩

theorem go_skip {op : Op} {ty : TypeId} {pos : String} {af : Array Edge} {j : Nat} {want : Bool} (hg : guardD all env j = some none) (hd : okDst n dst = true) (h1 : evOps P all rest (id + 32) ⟨putE dst .skip env, hp, nx, n⟩ K) :
    evOps P all ({ dst := dst, op := op, type := ty, pos := pos, after := af, guard := some (j, want) } :: rest) id ⟨env, hp, nx, n⟩ K := by
  rw [evOps_some]
  exact ⟨_, hg, fun b hb => absurd hb (by simp), fun _ => ⟨hd, h1⟩⟩

/-- A call that returns. -/
theorem go_call {f : Operand} {args : List Operand} {ts : Array TypeId} {g : FuncId} {xs ys args' : List D} {r : D} (hf : evalD env f = .clo (.func g) xs ys) (hp' : purL (lkH hp) 64 (xs ++ args.map (evalD env) ++ ys) = some args')
    (hc : Contract P g args' (.ret r)) (ho : (pureL (xs ++ args.map (evalD env) ++ ys) || refless r) = true) (hw : widR r ≤ 32) (hd : okDst n dst = true) (h : K .normal ⟨putE dst (adopt id r).1 env, (adopt id r).2 ++ hp, nx, n⟩) :
    evOp P (.call { callee := .value f, args := args.toArray, argTypes := ts }) id dst ⟨env, hp, nx, n⟩ K := by
  simp only [Bool.or_eq_true] at ho
  simp only [evOp, evCall, hf]
  refine ⟨args', .ret r, by simpa using hp', hc, ?_, hw, hd, h⟩
  rcases ho with h | h
  · exact .inl (by simpa using h)
  · exact .inr h

theorem go_panics {f : Operand} {args : List Operand} {ts : Array TypeId} {g : FuncId} {xs ys args' : List D} {d : D} (hf : evalD env f = .clo (.func g) xs ys) (hp' : purL (lkH hp) 64 (xs ++ args.map (evalD env) ++ ys) = some args')
    (hc : Contract P g args' (.pan d)) (ho : (pureL (xs ++ args.map (evalD env) ++ ys) || panOK d) = true) (h : K (.pan d) ⟨env, hp, nx, n⟩) :
    evOp P (.call { callee := .value f, args := args.toArray, argTypes := ts }) id dst ⟨env, hp, nx, n⟩ K := by
  simp only [Bool.or_eq_true] at ho
  simp only [evOp, evCall, hf]
  refine ⟨args', .pan d, by simpa using hp', hc, ?_, h⟩
  rcases ho with h | h
  · exact .inl (by simpa using h)
  · exact .inr h

theorem go_append_new {s x : Operand} {t : TypeId} {blk : Blk} (h : appendD P (lkH hp) t (evalD env s) (evalD env x) = some (none, blk)) (hd : okDst n dst = true) (hk : K .normal ⟨putE dst (.os id 0 blk.rows.length) env, (id, blk) :: hp, nx, n⟩) :
    evOp P (.call { callee := .builtin .append, args := #[s, x], argTypes := #[t, t] }) id dst ⟨env, hp, nx, n⟩ K := by
  simp only [evOp, if_true, h]
  exact ⟨hd, hk⟩

theorem go_append_on {s x : Operand} {t : TypeId} {b : Nat} {blk : Blk} (h : appendD P (lkH hp) t (evalD env s) (evalD env x) = some (some b, blk)) (hd : okDst n dst = true) (hk : K .normal ⟨putE dst (.os b 0 blk.rows.length) (purgeE b env), (b, blk) :: purgeH b hp, nx, n⟩) :
    evOp P (.call { callee := .builtin .append, args := #[s, x], argTypes := #[t, t] }) id dst ⟨env, hp, nx, n⟩ K := by
  simp only [evOp, if_true, h]
  exact ⟨hd, hk⟩

theorem go_buildSlice {t e : TypeId} {len : Nat} {parts : List (Nat × Operand)} {z : D} {rows : List (List D)} (hu : P.underlying t = some (.slice e)) (hl : len ≠ 0) (hz : zeroD P e = some z)
    (hc : known z = true ∧ (cellsD z).length = P.cellsOf e ∧ 0 < P.cellsOf e ∧ len * P.cellsOf e ≤ 2 ^ 24) (hr : fillRows (P.cellsOf e) (List.replicate len (cellsD z)) (parts.map fun (i, x) => (i, evalD env x)) = some rows) (hd : okDst n dst = true)
    (hk : K .normal ⟨putE dst (.os id 0 rows.length) env, (id, ⟨P.cellsOf e, flatRows rows, rows⟩) :: hp, nx, n⟩) : evOp P (.buildSlice t len parts.toArray) id dst ⟨env, hp, nx, n⟩ K := by
  simp only [evOp, op0, op1, hu, if_neg hl, hz, Option.bind_some]
  rw [if_pos hc, hr]
  exact ⟨hd, hk⟩

theorem go_buildSlice0 {t e : TypeId} (hu : P.underlying t = some (.slice e)) (hc : 0 < P.cellsOf e) (hd : okDst n dst = true) (hk : K .normal ⟨putE dst (.os id 0 0) env, (id, ⟨0, true, []⟩) :: hp, nx, n⟩) :
    evOp P (.buildSlice t 0 #[]) id dst ⟨env, hp, nx, n⟩ K := by
  simp only [evOp, op0, op1, hu, if_true]
  rw [if_pos ⟨rfl, hc⟩]
  exact ⟨hd, hk⟩

theorem go_makeSlice {t e : TypeId} {l c : Operand} {k k' : IntKind} {m m' : Int} {z : D} (hu : P.underlying t = some (.slice e)) (hl : evalD env l = .int k m) (hl' : evalD env c = .int k' m') (hz : zeroD P e = some z)
    (hc : known z = true ∧ (cellsD z).length = P.cellsOf e ∧ 0 < P.cellsOf e ∧ 0 ≤ m ∧ m = m' ∧ m ≤ 2 ^ 62 ∧ (P.bytesOf e : Int) * m ≤ 281474976710656) (hd : okDst n dst = true)
    (hk : K .normal ⟨putE dst (.os id 0 m.toNat) env, (id, ⟨P.cellsOf e, flatRows [cellsD z], List.replicate m.toNat (cellsD z)⟩) :: hp, nx, n⟩) : evOp P (.makeSlice t l c) id dst ⟨env, hp, nx, n⟩ K := by
  simp only [evOp, op0, op1, hu, hl, hl', hz, Option.bind_some]
  rw [if_pos hc]
  refine ⟨hd, ?_⟩
  simpa [outD] using hk

/-- One result. -/
theorem fin1 {rv : ResultVar} {d r : D} (h : resD P ⟨env, hp, nx, n⟩ rv = some d) (hp' : pur (lkH hp) 64 d = some r) (hn : notTup r = true) : Fin P [rv] ⟨env, hp, nx, n⟩ r := by
  refine .inl ⟨[.pure], [d], [r], by simp [h], by simp [frsOf], ⟨?_, trivial⟩, rfl, fun _ => by simp [hn]⟩
  have : without (frsOf [.pure]) (lkH hp) = lkH hp := by funext b; simp [without, frsOf]
  rw [this]
  exact hp'

theorem fin1_fr {rv : ResultVar} {b k : Nat} {fl : Bool} {rows rows' : List (List D)} (h : resD P ⟨env, hp, nx, n⟩ rv = some (.os b 0 rows'.length)) (hb : lkH hp b = some ⟨k, fl, rows⟩) (hr : if fl = true then rows' = rows else purR (without [b] (lkH hp)) 64 rows = some rows') :
    Fin P [rv] ⟨env, hp, nx, n⟩ (.fr k rows') :=
  .inl ⟨[.blk b], [.os b 0 rows'.length], [.fr k rows'], by simp [h], by simp [frsOf], ⟨⟨⟨k, fl, rows⟩, rows', rfl, hb, rfl, hr⟩, trivial⟩, rfl, fun _ => rfl⟩

theorem fin1_nil {rv : ResultVar} {k : Nat} (h : resD P ⟨env, hp, nx, n⟩ rv = some .nilsl) : Fin P [rv] ⟨env, hp, nx, n⟩ (.fr k []) :=
  .inl ⟨[.nil], [.nilsl], [.fr k []], by simp [h], by simp [frsOf], ⟨⟨rfl, k, rfl⟩, trivial⟩, rfl, fun _ => rfl⟩

def allPur (hp : Nat → Option Blk) : List D → List D → Prop
  | [], [] => True
  | d :: ds, r :: rs => pur hp 64 d = some r ∧ allPur hp ds rs
  | _, _ => False

theorem finL_pure {hp : Nat → Option Blk} : ∀ {ds rs : List D}, allPur hp ds rs → finL hp (without (frsOf (ds.map fun _ => .pure)) hp) (ds.map fun _ => .pure) ds rs ∧ frsOf (ds.map fun _ => Src.pure) = []
  | [], [], _ => ⟨trivial, rfl⟩
  | d :: ds, r :: rs, h => by
      obtain ⟨h1, h2⟩ := h
      obtain ⟨h3, h4⟩ := finL_pure h2
      have hw : without (frsOf (ds.map fun _ => Src.pure)) hp = hp := by funext b; simp [without, h4]
      have e : frsOf ((d :: ds).map fun _ => Src.pure) = [] := by simpa [frsOf] using h4
      refine ⟨⟨?_, ?_⟩, e⟩
      · simp only [finC]
        have : without (frsOf ((d :: ds).map fun _ => Src.pure)) hp = hp := by rw [e]; funext b; simp [without]
        rw [this]; exact h1
      · rw [e]
        rw [h4] at h3
        exact h3
  | [], _ :: _, h => h.elim
  | _ :: _, [], h => h.elim

/-- Several results, none of them new slices. -/
theorem fin2 {rv : List ResultVar} {ds rs : List D} (h : rv.map (resD P ⟨env, hp, nx, n⟩) = ds.map some) (hp' : allPur (lkH hp) ds rs) (hn : 2 ≤ rs.length) : Fin P rv ⟨env, hp, nx, n⟩ (.tup rs) := by
  obtain ⟨h1, h2⟩ := finL_pure hp'
  refine .inl ⟨ds.map fun _ => .pure, ds, rs, h, by rw [h2]; simp, h1, ?_, fun h => by omega⟩
  match rs, hn with
  | [_], hn => simp at hn
  | [], hn => simp at hn
  | _ :: _ :: _, _ => rfl

theorem finK_ret {rv : List ResultVar} {st : St} {r : D} (h : Fin P rv st r) : finK P rv (.ret r) .ret st := ⟨r, rfl, h⟩
theorem finK_normal {rv : List ResultVar} {st : St} {r : D} (h : Fin P rv st r) : finK P rv (.ret r) .normal st := ⟨r, rfl, h⟩
theorem end_ret {rv : List ResultVar} {st : St} {r r' : D} (h : Fin P rv st r') (e : r' = r) : finK P rv (.ret r) .ret st := ⟨r, rfl, e ▸ h⟩
theorem end_normal {rv : List ResultVar} {st : St} {r r' : D} (h : Fin P rv st r') (e : r' = r) : finK P rv (.ret r) .normal st := ⟨r, rfl, e ▸ h⟩
theorem finK_pan {rv : List ResultVar} {st : St} {d : D} : finK P rv (.pan d) (.pan d) st := rfl

end
end Go.Pv

/- One step an operation; what is known of types comes as instances. -/
namespace Go.Pv

class TSh (P : Program) (t : TypeId) (s : outParam Sh) : Prop where h : sh P t = s
class TSlice (P : Program) (t : TypeId) (e : outParam TypeId) (k : outParam Nat) : Prop where
  u : P.underlying t = some (.slice e)
  c : P.cellsOf e = k
  p : 0 < k
class TField (P : Program) (t : TypeId) (f : Nat) (o : outParam Nat) (t' : outParam TypeId) : Prop where
  h : fieldB P t f = some (o, t')
  c : P.cellsOf t' ≠ 0
class TZero (P : Program) (t : TypeId) (z : outParam D) : Prop where
  h : zeroD P t = some z
  k : known z = true
  c : 0 < (cellsD z).length
class TLay (P : Program) (t : TypeId) (z : outParam (List D)) (pl : outParam (List (Nat × Nat))) : Prop where h : layS P t = some (z, pl)
class TCells (P : Program) (t : TypeId) (k : outParam Nat) : Prop where
  h : P.cellsOf t = k
  p : 0 < k
theorem kne {a k : Nat} (h : a = k) (hk : k ≠ 0) : a ≠ 0 := h ▸ hk

class TInt (P : Program) (t : TypeId) (k : outParam IntKind) : Prop where h : P.underlying t = some (.int k)

section
variable {P : Program} {E : St → St → Prop} {K : X → St → Prop} {env : Env} {hp : Hp} {nx n id : Nat} {dst : Option Tmp} {all rest : List Oper} {x y z : Operand} {t t' : TypeId} {d : D} {s : Tmp}

theorem go_op {op : Op} {ty : TypeId} {pos : String} {af : Array Edge} (h : evOp P op id dst ⟨env, hp, nx, n⟩ (kOps P all rest (id + 32) K)) :
    evOps P all ({ dst := dst, op := op, type := ty, pos := pos, after := af, guard := none } :: rest) id ⟨env, hp, nx, n⟩ K := by rw [evOps_none]; exact h
theorem go_next (h : evOps P all rest id ⟨env, hp, nx, n⟩ K) : kOps P all rest id K .normal ⟨env, hp, nx, n⟩ := h
theorem go_nil (h : K .normal ⟨env, hp, id, n⟩) : evOps P all [] id ⟨env, hp, nx, n⟩ K := h
theorem go_kseq {f : St → Prop} {st : St} (h : f st) : kSeq f K .normal st := h
theorem go_kseq_ret {f : St → Prop} {st : St} (h : K .ret st) : kSeq f K .ret st := h
theorem go_kseq_exit {f : St → Prop} {st : St} {i : Nat} (h : K (.exit i) st) : kSeq f K (.exit i) st := h
theorem go_kseq_pan {f : St → Prop} {st : St} {d : D} (h : K (.pan d) st) : kSeq f K (.pan d) st := h
theorem go_kops_pan {st : St} {d : D} (h : K (.pan d) st) : kOps P all rest id K (.pan d) st := h
theorem go_kblock {st : St} {i : Nat} (h : K .normal st) : kBlock i K .normal st := h
theorem go_kblock_ret {st : St} {i : Nat} (h : K .ret st) : kBlock i K .ret st := h
theorem go_kblock_pan {st : St} {i : Nat} {d : D} (h : K (.pan d) st) : kBlock i K (.pan d) st := h
theorem go_kblock_exit {st : St} {i : Nat} (h : K .normal st) : kBlock i K (.exit i) st := by simpa [kBlock] using h
theorem go_kblock_other {st : St} {i j : Nat} (hne : (j == i) = false) (h : K (.exit j) st) : kBlock i K (.exit j) st := by
  have : j ≠ i := by simpa using hne
  simpa [kBlock, this] using h
theorem go_skipc {st : St} (h : K .normal st) : evG E P .skip K st := h
theorem go_ret {st : St} (h : K .ret st) : evG E P .ret K st := h
theorem go_exit {st : St} {i : Nat} (h : K (.exit i) st) : evG E P (.exit i) K st := h
theorem go_block {st : St} {i : Nat} {c : Code} (h : evG E P c (kBlock i K) st) : evG E P (.block i c) K st := h
theorem go_region {i : Nat} {l : List Oper} (h : evOps P l l nx ⟨env, hp, nx, n⟩ K) : evG E P (.region i l.toArray false) K ⟨env, hp, nx, n⟩ := .inl h
theorem go_draw (m : Nat) {i : Nat} {l : List Oper} (hc : chkDraw l m = true) (hdom : (hp.all fun x => decide (x.1 < nx)) = true) (h : evOps P l (l.take m) nx ⟨env, hp, nx, n⟩ (onlyN fun st' => evOps P l (l.drop m) st'.nx st' K)) :
    evG E P (.region i l.toArray true) K ⟨env, hp, nx, n⟩ := .inl ⟨m, hc, hdom, h⟩
theorem go_onlyN {f : St → Prop} {st : St} (h : f st) : onlyN f .normal st := h

theorem go_move (h : evalD env x = d) (hd : okDst n (some s) = true) (hk : K .normal ⟨(s, d) :: env, hp, nx, n⟩) : evOp P (.move x) id (some s) ⟨env, hp, nx, n⟩ K := by rw [evOp_move, h]; exact ⟨hd, hk⟩
theorem go_assign (h : evalD env x = d) (hd : okDst n (some s) = true) (hk : K .normal ⟨(s, d) :: env, hp, nx, n⟩) : evOp P (.assign x) id (some s) ⟨env, hp, nx, n⟩ K := by rw [evOp_assign, h]; exact ⟨hd, hk⟩

def cmpD (op : BinOp) (a b : Int) : Option Bool :=
  match op with
  | .eql => some (decide (a = b))
  | .neq => some (!decide (a = b))
  | .lss => some (decide (a < b))
  | .leq => some (decide (a ≤ b))
  | .gtr => some (decide (b < a))
  | .geq => some (decide (b ≤ a))
  | _ => none

/-- Whatever needs no range. -/
theorem go_bin {op : BinOp} (h : binD P op t (evalD env x) (evalD env y) = some d) (hd : okDst n (some s) = true) (hk : K .normal ⟨(s, d) :: env, hp, nx, n⟩) : evOp P (.binOp op t x y t') id (some s) ⟨env, hp, nx, n⟩ K := evOp_binOp ⟨d, h, hd, hk⟩

theorem go_cmp {op : BinOp} {k : IntKind} {a b : Int} {p : Bool} (hc : cmpD op a b = some p) (h1 : evalD env x = .int k a) (h2 : evalD env y = .int k b) (hd : okDst n (some s) = true) (hk : K .normal ⟨(s, (.bool p)) :: env, hp, nx, n⟩) :
    evOp P (.binOp op t x y t') id (some s) ⟨env, hp, nx, n⟩ K := go_bin (d := .bool p) (by rw [h1, h2]; cases op <;> simp only [cmpD, Option.some.injEq, reduceCtorEq] at hc <;> subst hc <;> simp [binD, intD]) hd hk

theorem wrap64 {a : Int} (h : -9223372036854775808 ≤ a ∧ a ≤ 9223372036854775807) : IntKind.wrap .i64 a = a := by
  rw [IntKind.wrap_i64]; omega

theorem go_add {a b : Int} (h1 : evalD env x = .int .i64 a) (h2 : evalD env y = .int .i64 b) (hd : okDst n (some s) = true) (hr : -9223372036854775808 ≤ a + b ∧ a + b ≤ 9223372036854775807) (hk : K .normal ⟨(s, (.int .i64 (a + b))) :: env, hp, nx, n⟩) :
    evOp P (.binOp .add t x y t') id (some s) ⟨env, hp, nx, n⟩ K := go_bin (d := .int .i64 (a + b)) (by rw [h1, h2]; simp [binD, intD, wrap64 hr]) hd hk
theorem go_sub {a b : Int} (h1 : evalD env x = .int .i64 a) (h2 : evalD env y = .int .i64 b) (hd : okDst n (some s) = true) (hr : -9223372036854775808 ≤ a - b ∧ a - b ≤ 9223372036854775807) (hk : K .normal ⟨(s, (.int .i64 (a - b))) :: env, hp, nx, n⟩) :
    evOp P (.binOp .sub t x y t') id (some s) ⟨env, hp, nx, n⟩ K := go_bin (d := .int .i64 (a - b)) (by rw [h1, h2]; simp [binD, intD, wrap64 hr]) hd hk
theorem go_mul {a b : Int} (h1 : evalD env x = .int .i64 a) (h2 : evalD env y = .int .i64 b) (hd : okDst n (some s) = true) (hr : -9223372036854775808 ≤ a * b ∧ a * b ≤ 9223372036854775807) (hk : K .normal ⟨(s, (.int .i64 (a * b))) :: env, hp, nx, n⟩) :
    evOp P (.binOp .mul t x y t') id (some s) ⟨env, hp, nx, n⟩ K := go_bin (d := .int .i64 (a * b)) (by rw [h1, h2]; simp [binD, intD, wrap64 hr]) hd hk
theorem go_quo {a b : Int} (h1 : evalD env x = .int .i64 a) (h2 : evalD env y = .int .i64 b) (hd : okDst n (some s) = true) (hb : b ≠ 0) (hr : -9223372036854775808 ≤ a.tdiv b ∧ a.tdiv b ≤ 9223372036854775807) (hk : K .normal ⟨(s, (.int .i64 (a.tdiv b))) :: env, hp, nx, n⟩) :
    evOp P (.binOp .quo t x y t') id (some s) ⟨env, hp, nx, n⟩ K := go_bin (d := .int .i64 (a.tdiv b)) (by rw [h1, h2]; simp [binD, intD, wrap64 hr, hb]) hd hk
theorem go_rem {a b : Int} (h1 : evalD env x = .int .i64 a) (h2 : evalD env y = .int .i64 b) (hd : okDst n (some s) = true) (hb : b ≠ 0) (hk : K .normal ⟨(s, (.int .i64 (a.tmod b))) :: env, hp, nx, n⟩) :
    evOp P (.binOp .rem t x y t') id (some s) ⟨env, hp, nx, n⟩ K := go_bin (d := .int .i64 (a.tmod b)) (by rw [h1, h2]; simp [binD, intD, hb]) hd hk

theorem go_neg {a : Int} (h1 : evalD env x = .int .i64 a) (hd : okDst n (some s) = true) (hr : -9223372036854775808 ≤ 0 - a ∧ 0 - a ≤ 9223372036854775807) (hk : K .normal ⟨(s, (.int .i64 (0 - a))) :: env, hp, nx, n⟩) :
    evOp P (.unOp .neg t x) id (some s) ⟨env, hp, nx, n⟩ K := by rw [evOp_unOp]; exact ⟨.int .i64 (0 - a), by rw [h1]; simp only [unD, wrap64 hr], hd, hk⟩
theorem go_not {p : Bool} (h1 : evalD env x = .bool p) (hd : okDst n (some s) = true) (hk : K .normal ⟨(s, (.bool !p)) :: env, hp, nx, n⟩) :
    evOp P (.unOp .not t x) id (some s) ⟨env, hp, nx, n⟩ K := by rw [evOp_unOp]; exact ⟨.bool !p, by rw [h1]; rfl, hd, hk⟩

theorem go_pick {p q : Bool} (h : evalD env x = .bool p) (hy : (if p = true then evalD env y else evalD env z) = .bool q) (hd : okDst n (some s) = true) (hk : K .normal ⟨(s, .bool q) :: env, hp, nx, n⟩) : evOp P (.pick x y z) id (some s) ⟨env, hp, nx, n⟩ K := by
  rw [evOp_pick]; exact ⟨.bool q, by rw [h, ← hy]; rfl, hd, hk⟩

theorem go_load {sh' : Sh} {cs : List D} [hs : TSh P t sh'] (h : evalD env x = .ptr cs) (hc : fromCells sh' cs = some d) (hd : okDst n (some s) = true) (hk : K .normal ⟨(s, d) :: env, hp, nx, n⟩) : evOp P (.load t x) id (some s) ⟨env, hp, nx, n⟩ K := by
  rw [evOp_load]; exact ⟨d, by rw [h]; simp only [loadD, hs.h]; exact hc, hd, hk⟩
theorem go_load_own {sh' : Sh} {b row off : Nat} {blk : Blk} [hs : TSh P t sh'] (h : evalD env x = .op b row off) (hb : lkH hp b = some blk) (hc : fromCells sh' ((getRow blk.rows row).drop off) = some d) (hd : okDst n (some s) = true) (hk : K .normal ⟨(s, d) :: env, hp, nx, n⟩) :
    evOp P (.load t x) id (some s) ⟨env, hp, nx, n⟩ K := by
  rw [evOp_load]; exact ⟨d, by rw [h]; simp only [loadD, hs.h, hb]; exact hc, hd, hk⟩

theorem go_fieldAddr {f o : Nat} {t' : TypeId} {cs : List D} [hf : TField P t f o t'] (h : evalD env x = .ptr cs) (hd : okDst n (some s) = true) (hk : K .normal ⟨(s, (.ptr (cs.drop o))) :: env, hp, nx, n⟩) : evOp P (.fieldAddr t x f) id (some s) ⟨env, hp, nx, n⟩ K := by
  rw [evOp_fieldAddr]; exact ⟨_, by rw [h]; simp only [fieldAddrD, hf.h, if_neg hf.c], hd, hk⟩
theorem go_fieldAddr_own {f o : Nat} {t' : TypeId} {b row off : Nat} {blk : Blk} [hf : TField P t f o t'] (h : evalD env x = .op b row off) (hb : lkH hp b = some blk) (hd : okDst n (some s) = true) (hk : K .normal ⟨(s, (.op b row (off + o))) :: env, hp, nx, n⟩) :
    evOp P (.fieldAddr t x f) id (some s) ⟨env, hp, nx, n⟩ K := by
  rw [evOp_fieldAddr]; exact ⟨_, by rw [h]; simp [fieldAddrD, hf.h, hf.c, hb], hd, hk⟩
theorem go_field {f o : Nat} {t' : TypeId} {sh' : Sh} {cs : List D} [hf : TField P t f o t'] [hs : TSh P t' sh'] (h : evalD env x = .agg cs) (hc : fromCells sh' (cs.drop o) = some d) (hd : okDst n (some s) = true) (hk : K .normal ⟨(s, d) :: env, hp, nx, n⟩) :
    evOp P (.field t x f) id (some s) ⟨env, hp, nx, n⟩ K := by
  rw [evOp_field]; exact ⟨_, by rw [h]; simp only [fieldD, hf.h, hs.h]; exact hc, hd, hk⟩

/-- An element of a slice that is not written. -/
theorem go_index {α : Type} {e : TypeId} {k : Nat} {l : List α} {f : α → List D} {ik : IntKind} {i : Int} [hs : TSlice P t e k] (h : evalD env x = .sl (l.map f)) (h2 : evalD env y = .int ik i) (hk : ∀ a, (f a).length = k) (hd : okDst n (some s) = true)
    (hi : 0 ≤ i ∧ i < l.length) (hc : ∀ (hlt : i.toNat < l.length), K .normal ⟨(s, (.ptr (f l[i.toNat]))) :: env, hp, nx, n⟩) : evOp P (.indexAddr t x y) id (some s) ⟨env, hp, nx, n⟩ K := by
  have hlt : i.toNat < l.length := by omega
  have hg : getRow (l.map f) i.toNat = f l[i.toNat] := by simp [getRow, List.getD_eq_getElem?_getD, hlt]
  rw [evOp_indexAddr]
  refine ⟨.ptr (f l[i.toNat]), ?_, hd, hc hlt⟩
  rw [h, h2]
  simp only [indexAddrD, hs.u, hg]
  rw [if_pos]
  exact ⟨hi.1, by simpa using hi.2, by rw [hk, hs.c], by rw [hs.c]; exact hs.p⟩

/-- An element of a slice of one's own. -/
theorem go_index_own {e : TypeId} {k : Nat} {b off len : Nat} {blk : Blk} {ik : IntKind} {i : Int} [hs : TSlice P t e k] (h : evalD env x = .os b off len) (h2 : evalD env y = .int ik i) (hb : lkH hp b = some blk) (hd : okDst n (some s) = true)
    (hkk : blk.k = k) (hi : (0 ≤ i ∧ i < len) ∧ off + len ≤ blk.rows.length) (hc : K .normal ⟨(s, (.op b (off + i.toNat) 0)) :: env, hp, nx, n⟩) : evOp P (.indexAddr t x y) id (some s) ⟨env, hp, nx, n⟩ K := by
  rw [evOp_indexAddr]
  refine ⟨.op b (off + i.toNat) 0, ?_, hd, hc⟩
  rw [h, h2]
  simp only [indexAddrD, hs.u, hb]
  rw [if_pos]
  exact ⟨hi.1.1, hi.1.2, hi.2, by rw [hkk, hs.c], by rw [hs.c]; exact hs.p⟩

theorem go_len {α : Type} {e : TypeId} {k : Nat} {l : List α} {f : α → List D} [hs : TSlice P t e k] (h : evalD env x = .sl (l.map f)) (hd : okDst n (some s) = true) (hk : K .normal ⟨(s, (.int .i64 l.length)) :: env, hp, nx, n⟩) :
    evOp P (.call { callee := .builtin .len, args := #[x], argTypes := #[t] }) id (some s) ⟨env, hp, nx, n⟩ K := by
  rw [evOp_len]; exact ⟨_, by rw [h]; simp [lenD, hs.u], hd, hk⟩
theorem go_len_own {e : TypeId} {k : Nat} {b off len : Nat} {blk : Blk} [hs : TSlice P t e k] (h : evalD env x = .os b off len) (hb : lkH hp b = some blk) (hd : okDst n (some s) = true) (hk : K .normal ⟨(s, (.int .i64 len)) :: env, hp, nx, n⟩) :
    evOp P (.call { callee := .builtin .len, args := #[x], argTypes := #[t] }) id (some s) ⟨env, hp, nx, n⟩ K := by
  rw [evOp_len]; exact ⟨_, by rw [h]; simp [lenD, hs.u, hb], hd, hk⟩
theorem go_extract {i : Nat} (h : extractD (evalD env x) i = some d) (hd : okDst n (some s) = true) (hk : K .normal ⟨(s, d) :: env, hp, nx, n⟩) : evOp P (.extract x i) id (some s) ⟨env, hp, nx, n⟩ K := by rw [evOp_extract]; exact ⟨d, h, hd, hk⟩

theorem go_build {parts : List (Nat × Operand)} {zs cs : List D} {pl : List (Nat × Nat)} [hl : TLay P t zs pl] (h : fillD (pl[·]?) zs (parts.map fun (i, x) => (i, evalD env x)) = some cs) (hd : okDst n (some s) = true) (hk : K .normal ⟨(s, (.agg cs)) :: env, hp, nx, n⟩) :
    evOp P (.build t parts.toArray) id (some s) ⟨env, hp, nx, n⟩ K := by
  rw [evOp_build]; exact ⟨.agg cs, by simp only [buildD, hl.h, Option.bind_some, h, Option.map_some], hd, hk⟩

theorem go_alloc {zd : D} {cs : List D} {fl : Bool} [hz : TZero P t zd] (hcs : cellsD zd = cs) (hfl : flatRows [cs] = fl) (hd : okDst n (some s) = true) (hk : K .normal ⟨(s, (.op id 0 0)) :: env, (id, ⟨cs.length, fl, [cs]⟩) :: hp, nx, n⟩) : evOp P (.alloc t) id (some s) ⟨env, hp, nx, n⟩ K := by
  subst hcs hfl
  rw [evOp_alloc]; exact ⟨zd, hz.h, ⟨hz.k, hz.c⟩, hd, hk⟩
theorem go_box {v : D} {cs : List D} {fl : Bool} (h : evalD env x = v) (hkn : known v = true) (hcs : cellsD v = cs) (hp0 : 0 < cs.length) (hfl : flatRows [cs] = fl) (hd : okDst n (some s) = true) (hk : K .normal ⟨(s, (.op id 0 0)) :: env, (id, ⟨cs.length, fl, [cs]⟩) :: hp, nx, n⟩) :
    evOp P (.box t x) id (some s) ⟨env, hp, nx, n⟩ K := by
  subst h hcs hfl
  rw [evOp_box]; exact ⟨⟨hkn, hp0⟩, hd, hk⟩

theorem go_store {b row off k : Nat} {v : D} {blk : Blk} {rows : List (List D)} {fl : Bool} [hc : TCells P t k] (ha : evalD env x = .op b row off) (hv : evalD env y = v) (hb : lkH hp b = some blk) (hkn : known v = true) (hl : (cellsD v).length = k) (h1 : (cellsD v).all cell1 = true)
    (hfit : off + k ≤ blk.k) (hrow : row < blk.rows.length) (hrows : blk.rows.set row (spliceL (getRow blk.rows row) off (cellsD v)) = rows) (hfl : (blk.flat && (cellsD v).all lite) = fl) (hk : K .normal ⟨env, updH b ⟨blk.k, fl, rows⟩ hp, nx, n⟩) :
    evOp P (.store t x y) id none ⟨env, hp, nx, n⟩ K := by
  subst hv hrows hfl
  rw [evOp_store]
  refine ⟨(b, _), ?_, rfl, hk⟩
  rw [ha]
  simp only [storeD, hb, Option.bind_some]
  rw [if_pos]
  rw [hc.h]
  exact ⟨hrow, hkn, hl, hc.p, hfit, h1⟩


theorem go_mv_int {k : IntKind} {a : Int} (h : evalD env x = .int k a) (hd : okDst n (some s) = true) (hk : K .normal ⟨(s, .int k a) :: env, hp, nx, n⟩) : evOp P (.move x) id (some s) ⟨env, hp, nx, n⟩ K := go_move h hd hk
theorem go_mv_bool {a : Bool} (h : evalD env x = .bool a) (hd : okDst n (some s) = true) (hk : K .normal ⟨(s, .bool a) :: env, hp, nx, n⟩) : evOp P (.move x) id (some s) ⟨env, hp, nx, n⟩ K := go_move h hd hk
theorem go_mv_sl {a : List (List D)} (h : evalD env x = .sl a) (hd : okDst n (some s) = true) (hk : K .normal ⟨(s, .sl a) :: env, hp, nx, n⟩) : evOp P (.move x) id (some s) ⟨env, hp, nx, n⟩ K := go_move h hd hk
theorem go_mv_os {b o l : Nat} (h : evalD env x = .os b o l) (hd : okDst n (some s) = true) (hk : K .normal ⟨(s, .os b o l) :: env, hp, nx, n⟩) : evOp P (.move x) id (some s) ⟨env, hp, nx, n⟩ K := go_move h hd hk
theorem go_mv_agg {a : List D} (h : evalD env x = .agg a) (hd : okDst n (some s) = true) (hk : K .normal ⟨(s, .agg a) :: env, hp, nx, n⟩) : evOp P (.move x) id (some s) ⟨env, hp, nx, n⟩ K := go_move h hd hk
theorem go_mv_tup {a : List D} (h : evalD env x = .tup a) (hd : okDst n (some s) = true) (hk : K .normal ⟨(s, .tup a) :: env, hp, nx, n⟩) : evOp P (.move x) id (some s) ⟨env, hp, nx, n⟩ K := go_move h hd hk
theorem go_mv_str {a : ByteArray} (h : evalD env x = .str a) (hd : okDst n (some s) = true) (hk : K .normal ⟨(s, .str a) :: env, hp, nx, n⟩) : evOp P (.move x) id (some s) ⟨env, hp, nx, n⟩ K := go_move h hd hk
theorem go_mv_nilsl (h : evalD env x = .nilsl) (hd : okDst n (some s) = true) (hk : K .normal ⟨(s, .nilsl) :: env, hp, nx, n⟩) : evOp P (.move x) id (some s) ⟨env, hp, nx, n⟩ K := go_move h hd hk
theorem go_mv_ptr {a : List D} (h : evalD env x = .ptr a) (hd : okDst n (some s) = true) (hk : K .normal ⟨(s, .ptr a) :: env, hp, nx, n⟩) : evOp P (.move x) id (some s) ⟨env, hp, nx, n⟩ K := go_move h hd hk
theorem go_mv_op {b r o : Nat} (h : evalD env x = .op b r o) (hd : okDst n (some s) = true) (hk : K .normal ⟨(s, .op b r o) :: env, hp, nx, n⟩) : evOp P (.move x) id (some s) ⟨env, hp, nx, n⟩ K := go_move h hd hk
theorem go_mv_clo {f : Fn} {a b : List D} (h : evalD env x = .clo f a b) (hd : okDst n (some s) = true) (hk : K .normal ⟨(s, .clo f a b) :: env, hp, nx, n⟩) : evOp P (.move x) id (some s) ⟨env, hp, nx, n⟩ K := go_move h hd hk
theorem go_as (h : evOp P (.move x) id (some s) ⟨env, hp, nx, n⟩ K) : evOp P (.assign x) id (some s) ⟨env, hp, nx, n⟩ K := h
end
end Go.Pv

/- Loops, regions whose order is open, ends. -/
namespace Go.Pv

theorem stepK_mono {K K' : X → St → Prop} (h : ∀ x st, K x st → K' x st) {st : St} {dst : Option Tmp} {d : D} {env : Env} {hp : Hp} (hk : stepK st dst d env hp K) : stepK st dst d env hp K' := ⟨hk.1, h _ _ hk.2⟩

theorem evOp_mono {P : Program} {K K' : X → St → Prop} (h : ∀ x st, K x st → K' x st) {o : Op} {id : Nat} {dst : Option Tmp} {st : St} (hk : evOp P o id dst st K) : evOp P o id dst st K' := by
  unfold evOp at hk ⊢
  split at hk
  · split at hk
    · exact stepK_mono h hk
    · exact hk
  · unfold evCall at hk ⊢
    split at hk
    · obtain ⟨args', out, h1, h2, h3, h4⟩ := hk
      refine ⟨args', out, h1, h2, h3, ?_⟩
      cases out with
      | ret r => exact ⟨h4.1, stepK_mono h h4.2⟩
      | pan d => exact h _ _ h4
    · exact hk
  · split at hk
    · split at hk
      · rename_i hargs hts htt
        rw [if_pos htt]
        split at hk
        · exact stepK_mono h hk
        · exact stepK_mono h hk
        · exact hk
      · exact hk.elim
    · exact hk
  · split at hk
    · exact stepK_mono h hk
    · exact hk
  · split at hk
    · exact stepK_mono h hk
    · split at hk
      · exact stepK_mono h hk
      · split at hk
        · exact fun b hb => stepK_mono h (hk b hb)
        · exact hk

theorem evOps_mono {P : Program} {all : List Oper} : ∀ (l : List Oper) {K K' : X → St → Prop} (_ : ∀ x st, K x st → K' x st) {id : Nat} {st : St}, evOps P all l id st K → evOps P all l id st K'
  | [], _, _, h, _, _, hk => h _ _ hk
  | o :: rest, K, K', h, id, st, hk => by
    have hrun : evOp P o.op id o.dst st (fun x st' => match x with | .normal => evOps P all rest (id + 32) st' K | x => K x st') → evOp P o.op id o.dst st (fun x st' => match x with | .normal => evOps P all rest (id + 32) st' K' | x => K' x st') :=
      evOp_mono fun x st hx => by cases x <;> first | exact evOps_mono rest h hx | exact h _ _ hx
    unfold evOps at hk ⊢
    simp only at hk ⊢
    split at hk
    · exact hrun hk
    · split at hk
      · exact ⟨fun hb => hrun (hk.1 hb), fun hb => ⟨(hk.2 hb).1, evOps_mono rest h (hk.2 hb).2⟩⟩
      · exact ⟨hk.1, evOps_mono rest h hk.2⟩
      · exact hk

theorem evLine_mono {P : Program} {all : List Oper} {m : Nat} : ∀ (l : List Oper) (zs : List (List Nat)) {K K' : X → St → Prop} (_ : ∀ x st, K x st → K' x st) {id : Nat} {st : St}, evLine P all m l zs id st K → evLine P all m l zs id st K'
  | [], [], _, _, h, _, _, hk => h _ _ hk
  | [], _ :: _, _, _, _, _, _, hk => hk.elim
  | _ :: _, [], _, _, _, _, _, hk => hk.elim
  | o :: rest, z :: zs, K, K', h, id, st, hk => by
    simp only [evLine] at hk ⊢
    exact evOp_mono (fun x st hx => by
      cases x with
      | normal => exact ⟨hx.1, evLine_mono rest zs h hx.2⟩
      | _ => exact hx) hk

theorem evCallM_mono {P : Program} {K K' : X → St → Prop} (h : ∀ x st, K x st → K' x st) {o : Op} {dst : Option Tmp} {st : St} (hk : evCallM P o dst st K) : evCallM P o dst st K' := by
  unfold evCallM at hk ⊢
  split at hk
  · split at hk
    · obtain ⟨b, blk, args', r, blk', h1, h2, h3, h4, h5, h6⟩ := hk
      exact ⟨b, blk, args', r, blk', h1, h2, h3, h4, h5, stepK_mono h h6⟩
    · exact hk.elim
  · exact hk.elim

theorem evClear_mono {P : Program} {K K' : X → St → Prop} (h : ∀ x st, K x st → K' x st) {o : Op} {dst : Option Tmp} {st : St} (hk : evClear P o dst st K) : evClear P o dst st K' := by
  unfold evClear at hk ⊢
  split at hk
  · obtain ⟨x, t, e, b, off, len, blk, h1, h2, h3, h4, h5, h6, h7, h8, h9⟩ := hk
    exact ⟨x, t, e, b, off, len, blk, h1, h2, h3, h4, h5, h6, h7, h8, stepK_mono h h9⟩
  · exact hk.elim

theorem evOpsM_mono {P : Program} {all : List Oper} : ∀ (l : List Oper) {K K' : X → St → Prop} (_ : ∀ x st, K x st → K' x st) {id : Nat} {st : St}, evOpsM P all l id st K → evOpsM P all l id st K'
  | [], K, K', h, id, st, hk => h _ _ hk
  | o :: rest, K, K', h, id, st, hk => by
    have hr : ∀ (x : X) (st : St), (match x with | .normal => evOpsM P all rest (id + 32) st K | x => K x st) → (match x with | .normal => evOpsM P all rest (id + 32) st K' | x => K' x st) := fun x st hx => by
      cases x with
      | normal => exact evOpsM_mono rest h hx
      | _ => exact h _ _ hx
    unfold evOpsM at hk ⊢
    simp only at hk ⊢
    refine hk.imp (fun hk => ?_) fun hk => ⟨hk.1, hk.2.imp (evCallM_mono hr) (evClear_mono hr)⟩
    cases hg : o.guard with
    | none => rw [hg] at hk; exact evOp_mono hr hk
    | some jw =>
      obtain ⟨j, want⟩ := jw
      rw [hg] at hk
      simp only at hk ⊢
      split at hk
      · exact ⟨fun hb => evOp_mono hr (hk.1 hb), fun hb => ⟨(hk.2 hb).1, evOpsM_mono rest h (hk.2 hb).2⟩⟩
      · exact ⟨hk.1, evOpsM_mono rest h hk.2⟩
      · exact hk.elim

theorem ev_mono {P : Program} {E : St → St → Prop} : ∀ (c : Code) (K K' : X → St → Prop) (st : St), (∀ x st, K x st → K' x st) → evG E P c K st → evG E P c K' st := by
  intro c
  induction c with
  | skip => exact fun K K' st h hk => h _ _ hk
  | label l => exact fun K K' st h hk => h _ _ hk
  | region id ops draw =>
    intro K K' st h hk
    cases draw with
    | false => exact hk.imp (evOps_mono _ h) (evOpsM_mono _ h)
    | true =>
      rcases hk with ⟨m, h1, h2, h3⟩ | ⟨m, zs, h1, h2, h3⟩
      · exact .inl ⟨m, h1, h2, evOps_mono _ (fun x st hx => by cases x <;> first | exact evOps_mono _ h hx | exact hx) h3⟩
      · exact .inr ⟨m, zs, h1, h2, evOps_mono _ (fun x st hx => by cases x <;> first | exact evLine_mono _ _ h hx | exact hx) h3⟩
  | seq a b iha ihb =>
    intro K K' st h hk
    rcases hk with hk | ⟨s1, hk, hk1⟩
    · exact .inl (iha _ _ st (fun x st hx => by cases x <;> first | exact ihb _ _ st h hx | exact h _ _ hx) hk)
    · exact .inr ⟨s1, iha _ _ st (fun x st hx => by cases x <;> first | exact hx | exact h _ _ hx) hk, ihb _ _ s1 h hk1⟩
  | cond c a b iha ihb =>
    intro K K' st h hk
    obtain ⟨t, h1, h2, h3⟩ := hk
    exact ⟨t, h1, fun ht => iha _ _ st h (h2 ht), fun ht => ihb _ _ st h (h3 ht)⟩
  | block id c ih =>
    intro K K' st h hk
    refine ih _ _ st (fun x st hx => ?_) hk
    cases x with
    | exit i =>
      simp only [kBlock] at hx ⊢
      split at hx
      · rename_i he; rw [if_pos he]; exact h _ _ hx
      · rename_i he; rw [if_neg he]; exact h _ _ hx
    | _ => exact h _ _ hx
  | loop c ih =>
    intro K K' st h hk
    obtain ⟨I, n, h1, h2⟩ := hk
    exact ⟨I, n, h1, fun n s hI => ih _ _ s (fun x st hx => by cases x <;> first | exact hx | exact h _ _ hx) (h2 n s hI)⟩
  | exit id => exact fun K K' st h hk => h _ _ hk
  | ret => exact fun K K' st h hk => h _ _ hk
  | scope c ih => exact fun K K' st h hk => ih K K' st h hk
  | _ => exact fun K K' st h hk => hk

section
variable {P : Program} {E : St → St → Prop} {K : X → St → Prop} {env : Env} {hp : Hp} {nx n id : Nat} {all : List Oper}

theorem go_loop (I : Nat → St → Prop) (N : Nat) {c : Code} {st : St} (s : St) (he : E st s) (h0 : I N s) (h : ∀ n s, I n s → evG E P c (kSeq (fun st' => ∃ n' s', n' < n ∧ E st' s' ∧ I n' s') K) s) : evG E P (.loop c) K st :=
  ⟨I, N, ⟨s, he, h0⟩, h⟩

/-- A loop that counts to N at most. -/
theorem go_count (N : Nat) (S : Nat → St) (C : Nat → Prop) {c : Code} {st : St} (he : E st (S 0)) (h0 : C 0)
    (h : ∀ i, i ≤ N → C i → evG E P c (kSeq (fun st' => i < N ∧ C (i + 1) ∧ E st' (S (i + 1))) K) (S i)) : evG E P (.loop c) K st := by
  refine go_loop (fun m s => ∃ i, i ≤ N ∧ m = N - i ∧ C i ∧ s = S i) N (S 0) he ⟨0, Nat.zero_le _, by omega, h0, rfl⟩ ?_
  rintro m s ⟨i, hi, rfl, hC, rfl⟩
  have := h i hi hC
  have key : ∀ (c : Code) (f g : St → Prop) (s : St), (∀ st, f st → g st) → evG E P c (kSeq f K) s → evG E P c (kSeq g K) s := fun c f g s hfg => ev_mono c _ _ s fun x st hx => by
    cases x <;> first | exact hfg st hx | exact hx
  refine key c _ _ _ (fun st' ⟨h1, h2, h3⟩ => ?_) this
  exact ⟨N - (i + 1), S (i + 1), by omega, h3, i + 1, by omega, rfl, h2, rfl⟩

theorem go_take {m : Nat} {o : Oper} {l : List Oper} {st : St} (h : evOps P all (o :: List.take m l) id st K) : evOps P all (List.take (m + 1) (o :: l)) id st K := h
theorem go_take0 {l : List Oper} {st : St} (h : evOps P all [] id st K) : evOps P all (List.take 0 l) id st K := h
theorem go_take_nil {m : Nat} {st : St} (h : evOps P all [] id st K) : evOps P all (List.take m []) id st K := by cases m <;> exact h
theorem go_drop {m : Nat} {o : Oper} {l : List Oper} {st : St} (h : evOps P all (List.drop m l) id st K) : evOps P all (List.drop (m + 1) (o :: l)) id st K := h
theorem go_drop0 {l : List Oper} {st : St} (h : evOps P all l id st K) : evOps P all (List.drop 0 l) id st K := h

def mOf (l : List Oper) : Nat := l.findIdx fun o => !kindA o.op

def preA : List Oper → List Oper
  | [] => []
  | o :: l => bif kindA o.op then o :: preA l else []
def sufA : List Oper → List Oper
  | [] => []
  | o :: l => bif kindA o.op then sufA l else o :: l

theorem take_preA : ∀ l : List Oper, l.take (preA l).length = preA l ∧ l.drop (preA l).length = sufA l
  | [] => ⟨rfl, rfl⟩
  | o :: l => by
    obtain ⟨h1, h2⟩ := take_preA l
    simp only [preA, sufA]
    cases kindA o.op
    · exact ⟨rfl, rfl⟩
    · exact ⟨by simp [h1], by simp [h2]⟩

theorem go_pre {o : Oper} {l : List Oper} {st : St} (hk : kindA o.op = true) (h : evOps P all (o :: preA l) id st K) : evOps P all (preA (o :: l)) id st K := by simp only [preA, hk, cond_true]; exact h
theorem go_pre_stop {o : Oper} {l : List Oper} {st : St} (hk : kindA o.op = false) (h : evOps P all [] id st K) : evOps P all (preA (o :: l)) id st K := by simp only [preA, hk, cond_false]; exact h
theorem go_pre_nil {st : St} (h : evOps P all [] id st K) : evOps P all (preA []) id st K := h
theorem go_suf {o : Oper} {l : List Oper} {st : St} (hk : kindA o.op = true) (h : evOps P all (sufA l) id st K) : evOps P all (sufA (o :: l)) id st K := by simp only [sufA, hk, cond_true]; exact h
theorem go_suf_stop {o : Oper} {l : List Oper} {st : St} (hk : kindA o.op = false) (h : evOps P all (o :: l) id st K) : evOps P all (sufA (o :: l)) id st K := by simp only [sufA, hk, cond_false]; exact h
theorem go_suf_nil {st : St} (h : evOps P all [] id st K) : evOps P all (sufA []) id st K := h

/-- Behind the operations whose order is open. -/
def kSuf (P : Program) (l : List Oper) (K : X → St → Prop) : X → St → Prop := onlyN fun st' => evOps P l (sufA l) st'.nx st' K
theorem go_ksuf {l : List Oper} (h : evOps P l (sufA l) nx ⟨env, hp, nx, n⟩ K) : kSuf P l K .normal ⟨env, hp, nx, n⟩ := h

theorem go_order {i : Nat} {l : List Oper} (hc : chkDraw l (preA l).length = true) (hdom : (hp.all fun x => decide (x.1 < nx)) = true) (h : evOps P l (preA l) nx ⟨env, hp, nx, n⟩ (kSuf P l K)) :
    evG E P (.region i l.toArray true) K ⟨env, hp, nx, n⟩ := .inl ⟨(preA l).length, hc, hdom, by rw [(take_preA l).1, (take_preA l).2]; exact h⟩

/-- Behind the first m operations. -/
def kDrop (P : Program) (l : List Oper) (m : Nat) (K : X → St → Prop) : X → St → Prop := onlyN fun st' => evOps P l (l.drop m) st'.nx st' K
theorem go_kdrop {l : List Oper} {m : Nat} (h : evOps P l (l.drop m) nx ⟨env, hp, nx, n⟩ K) : kDrop P l m K .normal ⟨env, hp, nx, n⟩ := h
theorem go_drawM (m : Nat) {i : Nat} {l : List Oper} (hc : chkDraw l m = true) (hdom : (hp.all fun x => decide (x.1 < nx)) = true) (h : evOps P l (l.take m) nx ⟨env, hp, nx, n⟩ (kDrop P l m K)) :
    evG E P (.region i l.toArray true) K ⟨env, hp, nx, n⟩ := .inl ⟨m, hc, hdom, h⟩

def kLineD (P : Program) (l : List Oper) (m : Nat) (zs : List (List Nat)) (K : X → St → Prop) : X → St → Prop := onlyN fun st' => evLine P l m (l.drop m) zs st'.nx st' K
theorem go_klined {l : List Oper} {m : Nat} {zs : List (List Nat)} (h : evLine P l m (l.drop m) zs nx ⟨env, hp, nx, n⟩ K) : kLineD P l m zs K .normal ⟨env, hp, nx, n⟩ := h
theorem go_drawL (m : Nat) (zs : List (List Nat)) {i : Nat} {l : List Oper} (hc : chkDrawL l m zs = true) (hdom : (hp.all fun x => decide (x.1 < nx)) = true) (h : evOps P l (l.take m) nx ⟨env, hp, nx, n⟩ (kLineD P l m zs K)) :
    evG E P (.region i l.toArray true) K ⟨env, hp, nx, n⟩ := .inr ⟨m, zs, hc, hdom, h⟩
theorem go_line_drop {l l' : List Oper} {m k : Nat} {o : Oper} {zs : List (List Nat)} {st : St} (h : evLine P l m (List.drop k l') zs id st K) : evLine P l m (List.drop (k + 1) (o :: l')) zs id st K := h
theorem go_line_drop0 {l l' : List Oper} {m : Nat} {zs : List (List Nat)} {st : St} (h : evLine P l m l' zs id st K) : evLine P l m (List.drop 0 l') zs id st K := h
def kLn (P : Program) (l : List Oper) (m : Nat) (rest : List Oper) (zs : List (List Nat)) (z : List Nat) (id : Nat) (K : X → St → Prop) : X → St → Prop := onlyN fun st' => againAll P l st' z ∧ evLine P l m rest zs (id + 32 + 32 * m) st' K
theorem go_line {l rest : List Oper} {m : Nat} {zs : List (List Nat)} {z : List Nat} {dst : Option Tmp} {op : Op} {ty : TypeId} {pos : String} {af : Array Edge} {g : Option (Nat × Bool)} (h : evOp P op id dst ⟨env, hp, nx, n⟩ (kLn P l m rest zs z id K)) :
    evLine P l m ({ dst := dst, op := op, type := ty, pos := pos, after := af, guard := g } :: rest) (z :: zs) id ⟨env, hp, nx, n⟩ K := h
theorem go_kln {l rest : List Oper} {m : Nat} {zs : List (List Nat)} {z : List Nat} (h1 : againAll P l ⟨env, hp, nx, n⟩ z) (h2 : evLine P l m rest zs (id + 32 + 32 * m) ⟨env, hp, nx, n⟩ K) : kLn P l m rest zs z id K .normal ⟨env, hp, nx, n⟩ := ⟨h1, h2⟩
theorem go_line_nil {l : List Oper} {m : Nat} (h : K .normal ⟨env, hp, id, n⟩) : evLine P l m [] [] id ⟨env, hp, nx, n⟩ K := h
theorem go_again_nil {l : List Oper} {st : St} : againAll P l st [] := trivial
theorem go_again {l : List Oper} {st : St} {j : Nat} {z : List Nat} {dst : Option Tmp} {op : Op} {ty : TypeId} {pos : String} {af : Array Edge} {g : Option (Nat × Bool)} (hj : l[j]? = some { dst := dst, op := op, type := ty, pos := pos, after := af, guard := g })
    (h : ∀ id, evOp P op id dst st (kAgain st)) (h2 : againAll P l st z) : againAll P l st (j :: z) := ⟨by unfold again; rw [hj]; exact h, h2⟩
theorem go_kagain {s : Tmp} {d : D} {nx' : Nat} (h : lkE env s = d) : kAgain ⟨env, hp, nx, n⟩ .normal ⟨(s, d) :: env, hp, nx', n⟩ := by
  refine ⟨rfl, rfl, rfl, fun t => ?_⟩
  show (if t = s then d else lkE env t) = _
  split
  · rename_i ht; rw [ht, h]
  · rfl

/-- A slice compared with nil. -/
theorem go_nilcmp {op : Op} {s : Tmp} {bs : List Bool} (h0 : op0 P (evalD env) (lkH hp) op = none) (h1 : op1 P (evalD env) op = none) (h2 : nilB P (evalD env) (lkH hp) op = some bs) (ho : (match op with | .store .. => false | .call _ => false | .build .. => false | _ => true) = true) (hd : okDst n (some s) = true)
    (hk : ∀ b ∈ bs, K .normal ⟨(s, .bool b) :: env, hp, nx, n⟩) : evOp P op id (some s) ⟨env, hp, nx, n⟩ K := by
  unfold evOp
  split <;> first | (cases ho; done) | skip
  rw [h0, h1, h2]
  exact fun b hb => ⟨hd, hk b hb⟩

theorem end_int {rv : ResultVar} {k : IntKind} {a b : Int} (h : resD P ⟨env, hp, nx, n⟩ rv = some (.int k a)) (e : a = b) : finK P [rv] (.ret (.int k b)) .ret ⟨env, hp, nx, n⟩ := e ▸ finK_ret (fin1 h rfl rfl)
theorem end_bool {rv : ResultVar} {a b : Bool} (h : resD P ⟨env, hp, nx, n⟩ rv = some (.bool a)) (e : a = b) : finK P [rv] (.ret (.bool b)) .ret ⟨env, hp, nx, n⟩ := e ▸ finK_ret (fin1 h rfl rfl)
theorem end_str {rv : ResultVar} {a b : ByteArray} (h : resD P ⟨env, hp, nx, n⟩ rv = some (.str a)) (e : a = b) : finK P [rv] (.ret (.str b)) .ret ⟨env, hp, nx, n⟩ := e ▸ finK_ret (fin1 h rfl rfl)
theorem end_int' {rv : ResultVar} {k : IntKind} {a b : Int} (h : resD P ⟨env, hp, nx, n⟩ rv = some (.int k a)) (e : a = b) : finK P [rv] (.ret (.int k b)) .normal ⟨env, hp, nx, n⟩ := e ▸ finK_normal (fin1 h rfl rfl)
theorem end_bool' {rv : ResultVar} {a b : Bool} (h : resD P ⟨env, hp, nx, n⟩ rv = some (.bool a)) (e : a = b) : finK P [rv] (.ret (.bool b)) .normal ⟨env, hp, nx, n⟩ := e ▸ finK_normal (fin1 h rfl rfl)

end
end Go.Pv

/- Texts; parts of slices; elements of arrays. -/
namespace Go.Pv

class TStr (P : Program) (t : TypeId) : Prop where u : P.underlying t = some .string

section
variable {P : Program} {K : X → St → Prop} {env : Env} {hp : Hp} {nx n id : Nat} {s : Tmp} {x y : Operand} {t : TypeId}

theorem go_len_str {a : ByteArray} [hs : TStr P t] (h : evalD env x = .str a) (hd : okDst n (some s) = true) (hk : K .normal ⟨(s, .int .i64 a.size) :: env, hp, nx, n⟩) :
    evOp P (.call { callee := .builtin .len, args := #[x], argTypes := #[t] }) id (some s) ⟨env, hp, nx, n⟩ K := by
  rw [evOp_len]; exact ⟨_, by rw [h]; simp [lenD, hs.u], hd, hk⟩

theorem go_index_str {a : ByteArray} {ik : IntKind} {i : Int} [hs : TStr P t] (h : evalD env x = .str a) (h2 : evalD env y = .int ik i) (hd : okDst n (some s) = true) (hi : 0 ≤ i ∧ i < a.size) (hk : K .normal ⟨(s, .int .u8 (byteAt a i.toNat)) :: env, hp, nx, n⟩) :
    evOp P (.index t x y) id (some s) ⟨env, hp, nx, n⟩ K := by
  rw [evOp_index]; exact ⟨_, by rw [h, h2]; simp [indexD, hs.u, hi], hd, hk⟩

/-- The first elements of a slice that is not written. -/
theorem go_take_sl {α : Type} {e : TypeId} {k : Nat} {l : List α} {f : α → List D} {ik : IntKind} {i : Int} [hs : TSlice P t e k] (h : evalD env x = .sl (l.map f)) (h2 : evalD env y = .int ik i) (hf : ∀ a, (f a).length = k) (hd : okDst n (some s) = true)
    (hi : 0 ≤ i ∧ i ≤ l.length) (hk : K .normal ⟨(s, .sl ((l.take i.toNat).map f)) :: env, hp, nx, n⟩) : evOp P (.slice t x none (some y) none) id (some s) ⟨env, hp, nx, n⟩ K := by
  rw [evOp_slice]
  refine ⟨.sl ((l.take i.toNat).map f), ?_, hd, hk⟩
  simp only [Option.map_none, Option.map_some, h, h2, sliceD, hs.u, boundD]
  rw [if_pos hi.1]
  simp only [Nat.zero_le, true_and, List.length_map, List.drop_zero]
  rw [if_pos]
  · rw [List.map_take]
  · refine ⟨by omega, by rw [hs.c]; exact hs.p, fun r hr => ?_⟩
    obtain ⟨a, _, rfl⟩ := List.mem_map.1 hr
    rw [hf, hs.c]

/-- The elements behind the first ones. -/
theorem go_drop_sl {α : Type} {e : TypeId} {k : Nat} {l : List α} {f : α → List D} {ik : IntKind} {i : Int} [hs : TSlice P t e k] (h : evalD env x = .sl (l.map f)) (h2 : evalD env y = .int ik i) (hf : ∀ a, (f a).length = k) (hd : okDst n (some s) = true)
    (hi : 0 ≤ i ∧ i ≤ l.length) (hk : K .normal ⟨(s, .sl ((l.drop i.toNat).map f)) :: env, hp, nx, n⟩) : evOp P (.slice t x (some y) none none) id (some s) ⟨env, hp, nx, n⟩ K := by
  rw [evOp_slice]
  refine ⟨.sl ((l.drop i.toNat).map f), ?_, hd, hk⟩
  simp only [Option.map_none, Option.map_some, h, h2, sliceD, hs.u, boundD]
  rw [if_pos hi.1]
  simp only [List.length_map, Nat.le_refl, true_and]
  rw [if_pos]
  · rw [List.map_drop, List.take_of_length_le (by simp)]
  · refine ⟨by omega, by rw [hs.c]; exact hs.p, fun r hr => ?_⟩
    obtain ⟨a, _, rfl⟩ := List.mem_map.1 hr
    rw [hf, hs.c]

theorem go_fn {fn : Fn} {xs ys : List Operand} {us bs : List D} (h1 : xs.map (evalD env) = us) (h2 : ys.map (evalD env) = bs) (hd : okDst n (some s) = true) (hk : K .normal ⟨(s, .clo fn us bs) :: env, hp, nx, n⟩) :
    evOp P (.makeFunc fn xs.toArray ys.toArray) id (some s) ⟨env, hp, nx, n⟩ K := by
  subst h1 h2
  rw [evOp_makeFunc]; exact ⟨hd, hk⟩

end
end Go.Pv

/- Calls of functions that are values. -/
namespace Go.Pv

/-- Handing it over leaves it as it is. -/
def Stab (ys : List D) : Prop := ∀ (hp : Nat → Option Blk) (m : Nat), purL hp (m + 16) ys = some ys

mutual
theorem ren_pure {g : Sg} : ∀ {d : D}, pureD d = true → ren g d = d
  | .os .., h => by simp [pureD] at h
  | .op .., h => by simp [pureD] at h
  | .om _, h => by simp [pureD] at h
  | .agg cs, h => by simp only [ren, renL_pure (ds := cs) (by simpa [pureD] using h)]
  | .tup cs, h => by simp only [ren, renL_pure (ds := cs) (by simpa [pureD] using h)]
  | .clo fn xs ys, h => by
    simp only [pureD, Bool.and_eq_true] at h
    simp only [ren, renL_pure h.1, renL_pure h.2]
  | .iface t d, h => by simp only [ren, ren_pure (d := d) (by simpa [pureD] using h)]
  | .undef, _ | .skip, _ | .int .., _ | .bool _, _ | .str _, _ | .float .., _ | .sl _, _ | .nilsl, _ | .ptr _, _ | .nilptr, _ | .nilfunc, _ | .nilif, _ | .fr .., _ => by simp only [ren]
theorem renL_pure {g : Sg} : ∀ {ds : List D}, pureL ds = true → renL g ds = ds
  | [], _ => rfl
  | d :: ds, h => by
    simp only [pureL, Bool.and_eq_true] at h
    simp only [renL, ren_pure h.1, renL_pure h.2]
end

section
variable {P : Program} {K : X → St → Prop} {env : Env} {hp : Hp} {nx n id : Nat} {s : Tmp} {x y f : Operand} {t : TypeId}

/-- A function value with captured values, called with one argument. -/
theorem go_call_clo {ts : Array TypeId} {g : FuncId} {ys : List D} {d1 r : D} (hf : evalD env f = .clo (.func g) [] ys) (hx : pur (lkH hp) 63 (evalD env x) = some d1) (hst : Stab ys) (hc : Contract P g (d1 :: ys) (.ret r)) (hr : refless r = true) (hw : widR r ≤ 32) (hd : okDst n (some s) = true)
    (h : K .normal ⟨(s, (adopt id r).1) :: env, (adopt id r).2 ++ hp, nx, n⟩) : evOp P (.call { callee := .value f, args := #[x], argTypes := ts }) id (some s) ⟨env, hp, nx, n⟩ K := by
  refine go_call (args := [x]) hf ?_ hc (by rw [hr, Bool.or_true]) hw hd h
  simp only [List.map_cons, List.map_nil, List.nil_append, List.singleton_append, purL, hx, Option.bind_some]
  rw [hst (lkH hp) 47]
  rfl

/-- A call of a named function: its arguments read as such. -/
theorem go_call_fn {args : List Operand} {ts : Array TypeId} {g : FuncId} {args' : List D} {r : D} (hp' : purL (lkH hp) 64 (args.map (evalD env)) = some args') (hc : Contract P g args' (.ret r)) (hr : (pureL (args.map (evalD env)) || refless r) = true) (hw : widR r ≤ 32) (hd : okDst n (some s) = true)
    (h : K .normal ⟨(s, (adopt id r).1) :: env, (adopt id r).2 ++ hp, nx, n⟩) : evOp P (.call { callee := .value (.func g), args := args.toArray, argTypes := ts }) id (some s) ⟨env, hp, nx, n⟩ K :=
  go_call (xs := []) (ys := []) rfl (by simpa using hp') hc (by simpa using hr) hw hd h

theorem go_clo_bool {ts : Array TypeId} {g : FuncId} {ys : List D} {d1 : D} {q : Bool} (hf : evalD env f = .clo (.func g) [] ys) (hx : pur (lkH hp) 63 (evalD env x) = some d1) (hst : Stab ys) (hc : Contract P g (d1 :: ys) (.ret (.bool q))) (hd : okDst n (some s) = true)
    (h : K .normal ⟨(s, .bool q) :: env, hp, nx, n⟩) : evOp P (.call { callee := .value f, args := #[x], argTypes := ts }) id (some s) ⟨env, hp, nx, n⟩ K := go_call_clo hf hx hst hc rfl (Nat.le_of_ble_eq_true rfl) hd h
theorem go_clo_int {ts : Array TypeId} {g : FuncId} {ys : List D} {d1 : D} {k : IntKind} {q : Int} (hf : evalD env f = .clo (.func g) [] ys) (hx : pur (lkH hp) 63 (evalD env x) = some d1) (hst : Stab ys) (hc : Contract P g (d1 :: ys) (.ret (.int k q))) (hd : okDst n (some s) = true)
    (h : K .normal ⟨(s, .int k q) :: env, hp, nx, n⟩) : evOp P (.call { callee := .value f, args := #[x], argTypes := ts }) id (some s) ⟨env, hp, nx, n⟩ K := go_call_clo hf hx hst hc rfl (Nat.le_of_ble_eq_true rfl) hd h
theorem go_clo_str {ts : Array TypeId} {g : FuncId} {ys : List D} {d1 : D} {q : ByteArray} (hf : evalD env f = .clo (.func g) [] ys) (hx : pur (lkH hp) 63 (evalD env x) = some d1) (hst : Stab ys) (hc : Contract P g (d1 :: ys) (.ret (.str q))) (hd : okDst n (some s) = true)
    (h : K .normal ⟨(s, .str q) :: env, hp, nx, n⟩) : evOp P (.call { callee := .value f, args := #[x], argTypes := ts }) id (some s) ⟨env, hp, nx, n⟩ K := go_call_clo hf hx hst hc rfl (Nat.le_of_ble_eq_true rfl) hd h

theorem go_fn_bool {args : List Operand} {ts : Array TypeId} {g : FuncId} {args' : List D} {q : Bool} (hp' : purL (lkH hp) 64 (args.map (evalD env)) = some args') (hc : Contract P g args' (.ret (.bool q))) (hd : okDst n (some s) = true)
    (h : K .normal ⟨(s, .bool q) :: env, hp, nx, n⟩) : evOp P (.call { callee := .value (.func g), args := args.toArray, argTypes := ts }) id (some s) ⟨env, hp, nx, n⟩ K :=
  go_call_fn hp' hc (Bool.or_true _) (Nat.le_of_ble_eq_true rfl) hd h
theorem go_fn_int {args : List Operand} {ts : Array TypeId} {g : FuncId} {args' : List D} {k : IntKind} {q : Int} (hp' : purL (lkH hp) 64 (args.map (evalD env)) = some args') (hc : Contract P g args' (.ret (.int k q))) (hd : okDst n (some s) = true)
    (h : K .normal ⟨(s, .int k q) :: env, hp, nx, n⟩) : evOp P (.call { callee := .value (.func g), args := args.toArray, argTypes := ts }) id (some s) ⟨env, hp, nx, n⟩ K :=
  go_call_fn hp' hc (Bool.or_true _) (Nat.le_of_ble_eq_true rfl) hd h


/-- A whole variable is written: its cells are known. -/
theorem go_store_var {b k : Nat} {v : D} {fl fl' : Bool} {row cs : List D} [hc : TCells P t k] (ha : evalD env x = .op b 0 0) (hb : lkH hp b = some ⟨k, fl, [row]⟩) (hv : evalD env y = v) (hkn : known v = true) (hcs : cellsD v = cs) (hl : cs.length = k) (h1 : cs.all cell1 = true) (hrl : row.length = k)
    (hfl : (fl && cs.all lite) = fl') (hk : K .normal ⟨env, updH b ⟨k, fl', [cs]⟩ hp, nx, n⟩) : evOp P (.store t x y) id none ⟨env, hp, nx, n⟩ K := by
  subst hv hcs
  refine go_store ha rfl hb hkn hl h1 (by simp) (by simp) ?_ hfl hk
  simp only [getRow, List.getD_cons_zero, List.set_cons_zero, List.cons.injEq, and_true]
  unfold spliceL
  simp [hl, hrl]

theorem go_st_agg {b k : Nat} {fl fl' : Bool} {row cs : List D} [hc : TCells P t k] (ha : evalD env x = .op b 0 0) (hb : lkH hp b = some ⟨k, fl, [row]⟩) (hv : evalD env y = .agg cs) (hl : cs.length = k) (h1 : cs.all cell1 = true) (hrl : row.length = k)
    (hfl : (fl && cs.all lite) = fl') (hk : K .normal ⟨env, updH b ⟨k, fl', [cs]⟩ hp, nx, n⟩) : evOp P (.store t x y) id none ⟨env, hp, nx, n⟩ K := go_store_var ha hb hv rfl rfl hl h1 hrl hfl hk
theorem go_st_int {b : Nat} {fl : Bool} {row : D} {k : IntKind} {a : Int} [hc : TCells P t 1] (ha : evalD env x = .op b 0 0) (hb : lkH hp b = some ⟨1, fl, [[row]]⟩) (hv : evalD env y = .int k a) (hk : K .normal ⟨env, updH b ⟨1, fl, [[.int k a]]⟩ hp, nx, n⟩) : evOp P (.store t x y) id none ⟨env, hp, nx, n⟩ K :=
  go_store_var ha hb hv rfl rfl rfl rfl rfl (by cases fl <;> rfl) hk
theorem go_st_bool {b : Nat} {fl : Bool} {row : D} {a : Bool} [hc : TCells P t 1] (ha : evalD env x = .op b 0 0) (hb : lkH hp b = some ⟨1, fl, [[row]]⟩) (hv : evalD env y = .bool a) (hk : K .normal ⟨env, updH b ⟨1, fl, [[.bool a]]⟩ hp, nx, n⟩) : evOp P (.store t x y) id none ⟨env, hp, nx, n⟩ K :=
  go_store_var ha hb hv rfl rfl rfl rfl rfl (by cases fl <;> rfl) hk
theorem go_st_str {b : Nat} {fl : Bool} {row : D} {a : ByteArray} [hc : TCells P t 1] (ha : evalD env x = .op b 0 0) (hb : lkH hp b = some ⟨1, fl, [[row]]⟩) (hv : evalD env y = .str a) (hk : K .normal ⟨env, updH b ⟨1, fl, [[.str a]]⟩ hp, nx, n⟩) : evOp P (.store t x y) id none ⟨env, hp, nx, n⟩ K :=
  go_store_var ha hb hv rfl rfl rfl rfl rfl (by cases fl <;> rfl) hk
theorem go_st_sl {b : Nat} {fl : Bool} {row : D} {a : List (List D)} [hc : TCells P t 1] (ha : evalD env x = .op b 0 0) (hb : lkH hp b = some ⟨1, fl, [[row]]⟩) (hv : evalD env y = .sl a) (hk : K .normal ⟨env, updH b ⟨1, fl, [[.sl a]]⟩ hp, nx, n⟩) : evOp P (.store t x y) id none ⟨env, hp, nx, n⟩ K :=
  go_store_var ha hb hv rfl rfl rfl rfl rfl (by cases fl <;> rfl) hk

theorem go_bx_int {k : IntKind} {a : Int} (h : evalD env x = .int k a) (hd : okDst n (some s) = true) (hk : K .normal ⟨(s, .op id 0 0) :: env, (id, ⟨1, true, [[.int k a]]⟩) :: hp, nx, n⟩) : evOp P (.box t x) id (some s) ⟨env, hp, nx, n⟩ K := go_box h rfl rfl (Nat.le_of_ble_eq_true rfl) rfl hd hk
theorem go_bx_str {a : ByteArray} (h : evalD env x = .str a) (hd : okDst n (some s) = true) (hk : K .normal ⟨(s, .op id 0 0) :: env, (id, ⟨1, true, [[.str a]]⟩) :: hp, nx, n⟩) : evOp P (.box t x) id (some s) ⟨env, hp, nx, n⟩ K := go_box h rfl rfl (Nat.le_of_ble_eq_true rfl) rfl hd hk
theorem go_bx_bool {a : Bool} (h : evalD env x = .bool a) (hd : okDst n (some s) = true) (hk : K .normal ⟨(s, .op id 0 0) :: env, (id, ⟨1, true, [[.bool a]]⟩) :: hp, nx, n⟩) : evOp P (.box t x) id (some s) ⟨env, hp, nx, n⟩ K := go_box h rfl rfl (Nat.le_of_ble_eq_true rfl) rfl hd hk
theorem go_bx_sl {a : List (List D)} (h : evalD env x = .sl a) (hd : okDst n (some s) = true) (hk : K .normal ⟨(s, .op id 0 0) :: env, (id, ⟨1, true, [[.sl a]]⟩) :: hp, nx, n⟩) : evOp P (.box t x) id (some s) ⟨env, hp, nx, n⟩ K := go_box h rfl rfl (Nat.le_of_ble_eq_true rfl) rfl hd hk
theorem go_bx_clo {f : Fn} {a b : List D} (h : evalD env x = .clo f a b) (hd : okDst n (some s) = true) (hk : K .normal ⟨(s, .op id 0 0) :: env, (id, ⟨1, false, [[.clo f a b]]⟩) :: hp, nx, n⟩) : evOp P (.box t x) id (some s) ⟨env, hp, nx, n⟩ K := go_box h rfl rfl (Nat.le_of_ble_eq_true rfl) rfl hd hk
theorem go_bx_agg {cs : List D} {k : Nat} {fl : Bool} (h : evalD env x = .agg cs) (hl : cs.length = k) (h0 : 0 < k) (hfl : cs.all lite = fl) (hd : okDst n (some s) = true) (hk : K .normal ⟨(s, .op id 0 0) :: env, (id, ⟨k, fl, [cs]⟩) :: hp, nx, n⟩) : evOp P (.box t x) id (some s) ⟨env, hp, nx, n⟩ K := by
  subst hl
  exact go_box h rfl rfl h0 (by simpa [flatRows, cellsD] using hfl) hd hk
theorem go_fn0 {fn : Fn} (hd : okDst n (some s) = true) (hk : K .normal ⟨(s, .clo fn [] []) :: env, hp, nx, n⟩) : evOp P (.makeFunc fn #[] #[]) id (some s) ⟨env, hp, nx, n⟩ K := go_fn (xs := []) (ys := []) rfl rfl hd hk
theorem go_fn1 {fn : Fn} {b r o : Nat} (h : evalD env x = .op b r o) (hd : okDst n (some s) = true) (hk : K .normal ⟨(s, .clo fn [] [.op b r o]) :: env, hp, nx, n⟩) : evOp P (.makeFunc fn #[] #[x]) id (some s) ⟨env, hp, nx, n⟩ K := go_fn (xs := []) (ys := [x]) rfl (by simp [h]) hd hk
theorem go_fn2 {fn : Fn} {b r o b' r' o' : Nat} (h : evalD env x = .op b r o) (h' : evalD env y = .op b' r' o') (hd : okDst n (some s) = true) (hk : K .normal ⟨(s, .clo fn [] [.op b r o, .op b' r' o']) :: env, hp, nx, n⟩) : evOp P (.makeFunc fn #[] #[x, y]) id (some s) ⟨env, hp, nx, n⟩ K := go_fn (xs := []) (ys := [x, y]) rfl (by simp [h, h']) hd hk
theorem go_fn3 {fn : Fn} {z : Operand} {b r o b' r' o' b2 r2 o2 : Nat} (h : evalD env x = .op b r o) (h' : evalD env y = .op b' r' o') (h2 : evalD env z = .op b2 r2 o2) (hd : okDst n (some s) = true) (hk : K .normal ⟨(s, .clo fn [] [.op b r o, .op b' r' o', .op b2 r2 o2]) :: env, hp, nx, n⟩) : evOp P (.makeFunc fn #[] #[x, y, z]) id (some s) ⟨env, hp, nx, n⟩ K := go_fn (xs := []) (ys := [x, y, z]) rfl (by simp [h, h', h2]) hd hk

/-- Values that stay as they are in front of others. -/
def StabF (xs : List D) : Prop := ∀ (hp : Nat → Option Blk) (m : Nat) (ds ds' : List D), purL hp (m + 16) ds = some ds' → purL hp (m + 16 + xs.length) (xs ++ ds) = some (xs ++ ds')

/-- A function value with first values (a bound receiver), called with one argument. -/
theorem go_call_bound {ts : Array TypeId} {g : FuncId} {xs : List D} {d1 r : D} (hlen : xs.length ≤ 32) (hf : evalD env f = .clo (.func g) xs []) (hx : ∀ m, pur (lkH hp) (m + 15) (evalD env x) = some d1) (hst : StabF xs) (hc : Contract P g (xs ++ [d1]) (.ret r)) (hr : refless r = true) (hw : widR r ≤ 32) (hd : okDst n (some s) = true)
    (h : K .normal ⟨(s, (adopt id r).1) :: env, (adopt id r).2 ++ hp, nx, n⟩) : evOp P (.call { callee := .value f, args := #[x], argTypes := ts }) id (some s) ⟨env, hp, nx, n⟩ K := by
  refine go_call (args := [x]) hf ?_ hc (by rw [hr, Bool.or_true]) hw hd h
  have h1 : purL (lkH hp) (48 - xs.length + 16) [evalD env x] = some [d1] := by
    show (pur (lkH hp) (48 - xs.length + 15) (evalD env x)).bind _ = _
    rw [hx]
    rfl
  have := hst (lkH hp) (48 - xs.length) _ _ h1
  rw [show 48 - xs.length + 16 + xs.length = 64 by omega] at this
  simpa using this

end
end Go.Pv

/- Contracts of functions that write into one block of their caller's. -/
namespace Go.Pv


/-- Of the state to be kept, block 0 alone is a block of one's own. -/
def Frm.one (S : Frm) : Prop := ∀ b, b ≠ 0 → S.ow b = .pending

/-- The second plain state says no more than the first, and block 0 stays where it is. -/
def EntailsK (st st' : St) : Prop := ∀ (w0 : World) (S : Frm) (a : Act) (w : World), S.one → InvI w0 S st.nx st a w → InvI w0 S st'.nx st' a w

def finM (P : Program) (rv : List ResultVar) (r : D) (blk' : Blk) : X → St → Prop
  | .normal, st => ∃ ds, rv.map (resD P st) = ds.map some ∧ r = tupOf ds ∧ lkH st.hp 0 = some blk'
  | .ret, st => ∃ ds, rv.map (resD P st) = ds.map some ∧ r = tupOf ds ∧ lkH st.hp 0 = some blk'
  | _, _ => False

section
variable {P : Program} {w w' w0 : World}

def okCell : D → Bool
  | .os b _ _ => b == 0
  | d => scal1 d

theorem okO_rezone {pu Q : Nat → Prop} {ow : Nat → Ow} {o : Ow} (ho : ow 0 = o) {v : Value} {d : D} (h : Rep w pu ow v d) (hk : okO d = true) : Rep w Q (owM o) v d := by
  unfold okO at hk
  split at hk
  · rename_i b' off len
    simp only [beq_iff_eq] at hk
    subst hk
    cases h with
    | pure _ _ h => cases h
    | osd a n c _ _ _ hb => exact .osd a n c 0 off len (by rw [← hb, ho]; rfl)
    | ose a _ _ hb => exact .ose a 0 off (by rw [← hb, ho]; rfl)
    | osa a cap _ _ _ g o' k sz hb hl hm => exact .osa a cap 0 off len g o' k sz (by rw [← hb, ho]; rfl) hl hm
  · cases h with
    | pure _ _ h => exact .pure _ _ (scal1_zone h hk)
    | _ => cases hk

theorem finM_core {fn : Func} {S : Frm} {st : St} {a : Act} {w0 : World} (hi : InvI w0 S st.nx st a w) {ds : List D} {r : D} {blk' : Blk} (h1 : fn.results.toList.map (resD P st) = ds.map some) (hr : r = tupOf ds) (hb : lkH st.hp 0 = some blk')
    (hs : scalR blk'.rows = true) (ho : okOut r = true) {o : Ow} (hS : S.ow 0 = o) (hne : o ≠ .pending) :
    a.defers = [] ∧ ∃ v, (results fn a.tmps).run P w = .ok v w ∧ Below w0.heap.size w0 w ∧ (∀ g, S.pu g → w.heap[g]? = S.w.heap[g]?) ∧ BlkOK w (fun _ => False) (owM o) o blk' ∧ Rep w (fun _ => False) (owM o) v r := by
  obtain ⟨pu, ow, hm, he, hbw, hz, hid, hsz, hd⟩ := hi
  have h0 : ow 0 = o := by
    rcases hd.2.2 0 with h | h
    · rw [hS] at h; exact (hne h).elim
    · rw [h, hS]
  obtain ⟨vs, g1, g2, g3⟩ := results_ok (P := P) (fn := fn) hm he h1
  have hblk := hm.blk 0 blk' hb
  rw [h0] at hblk
  refine ⟨hd.1, _, g1, hbw, fun g hg => (hd.2.1 g hg).2, hblk.rezone hs, ?_⟩
  subst hr
  match vs, ds, g2, g3 with
  | [], [], _, _ => exact .tup _ _ rfl fun i v d h => by simp at h
  | [v], [d], _, g3 =>
    have := g3 0 v d rfl rfl
    simp only [tupOf] at ho ⊢
    cases d with
    | tup es =>
      obtain ⟨us, rfl, k1, k2⟩ := this.tup_inv
      exact .tup us es k1 fun i v e hv he => okO_rezone h0 (k2 i v e hv he) (List.all_eq_true.1 ho e (List.mem_of_getElem? he))
    | _ => exact okO_rezone h0 this ho
  | v :: v' :: vs, d :: d' :: ds, g2, g3 =>
    simp only [tupOf, okOut] at ho ⊢
    exact .tup _ _ (by simpa using g2) fun i u e hu he => okO_rezone h0 (g3 i u e (by simpa using hu) he) (List.all_eq_true.1 ho e (List.mem_of_getElem? he))

theorem contractM_of {f : FuncId} {fn : Func} {c : Code} {ds : List D} {blk blk' : Blk} {r : D} (hmix : P.follows .mixedOrders = true) (hf : P.funcs[f]? = some fn) (hb : fn.body = some c) (hname : (fn.name == "runtime.NumGoroutine") = false)
    (hn : ds.length ≤ fn.ntmps) (hna : noAppC c = true) (hs : scalR blk'.rows = true) (ho : okOut r = true)
    (h : evG EntailsK P c (finM P fn.results.toList r blk') ⟨argsE 0 ds, [(0, blk)], 1, fn.ntmps⟩) : ContractM P f ds blk r blk' := by
  refine ⟨⟨fn, hf, by rw [hb]; rfl, hname⟩, hs, ho, fun S w args o hS hO hblk hlen hargs => ?_⟩
  refine calls_of_wp hf hb ?_
  have hne : o ≠ .pending := by rcases hO with rfl | ⟨g, a, k, sz, rfl, _⟩ <;> simp
  have hnd : o ≠ .dead := by rcases hO with rfl | ⟨g, a, k, sz, rfl, _⟩ <;> simp
  let w0 : World := { w with heap := #[] }
  let pu : Nat → Prop := fun g => g < w.heap.size ∧ ∀ a k sz, o ≠ .lies g a k sz
  have hSp : ∀ g, S g → pu g := fun g hg => ⟨hS g hg, fun a k sz e => by
    rcases hO with h | ⟨g', a', k', sz', h, hng⟩
    · rw [h] at e; cases e
    · rw [h] at e; injection e with e; subst e; exact hng hg⟩
  have hext : Ext w S (owM o) w pu (owM o) := ⟨fun g hg => ⟨hSp g hg, rfl⟩, fun _ => .inr (.inl rfl)⟩
  have hi : InvI w0 ⟨fun _ => True, w, pu, owM o⟩ 1 ⟨argsE 0 ds, [(0, blk)], 1, fn.ntmps⟩ { tmps := args ++ Array.replicate (fn.ntmps - args.size) undef, defers := [] } w := by
    refine ⟨pu, owM o, ⟨fun b blk2 hb2 => ?_, fun b hb2 => ?_, fun b b' g h h' => ?_, fun b g h => ?_, fun g hg => hg.1⟩, fun s => ?_, ⟨rfl, rfl, rfl, Nat.zero_le _, fun k hk => absurd hk (Nat.not_lt_zero k), .same rfl⟩, fun g hg => .inl trivial, fun b hb2 => ?_, by simp; omega, rfl, fun g hg => ⟨hg, rfl⟩, fun b => .inr rfl⟩
    · simp only [lkH] at hb2
      split at hb2
      · rename_i h0; subst h0
        injection hb2 with hb2; subst hb2
        exact hblk.mono hext fun _ _ => rfl
      · cases hb2
    · simp only [lkH] at hb2
      split at hb2
      · cases hb2
      · rename_i h0; exact .inr (if_neg h0)
    · unfold owM at h h'
      split at h
      · split at h'
        · rename_i e1 e2; rw [e1, e2]
        · exact h'.elim
      · exact h.elim
    · unfold owM at h
      split at h
      · refine ⟨Nat.zero_le _, fun hp => ?_⟩
        rcases hO with rfl | ⟨g', a', k', sz', rfl, _⟩
        · exact h.elim
        · cases h; exact hp.2 _ _ _ rfl
      · exact h.elim
    · simp only
      rw [lkE_argsE, if_pos (Nat.zero_le _), Nat.sub_zero, Array.getD_eq_getD_getElem?, Array.getElem?_append]
      split
      · rename_i hs
        rw [Array.getElem?_eq_getElem hs, List.getD_eq_getElem?_getD, List.getElem?_eq_getElem (by omega)]
        simp only [Option.getD_some]
        exact (hargs s _ _ (Array.getElem?_eq_getElem hs) (List.getElem?_eq_getElem (by omega))).mono hext
      · rename_i hs
        rw [List.getD_eq_getElem?_getD, List.getElem?_eq_none (by omega)]
        exact .pure _ _ (.undef _)
    · exact if_neg (by omega)
  have hone : Frm.one ⟨fun _ => True, w, pu, owM o⟩ := fun b hb => if_neg hb
  have fin : ∀ {a : Act} {w' : World}, (a.defers = [] ∧ ∃ v, (results fn a.tmps).run P w' = .ok v w' ∧ Below w0.heap.size w0 w' ∧ (∀ g, pu g → w'.heap[g]? = w.heap[g]?) ∧ BlkOK w' (fun _ => False) (owM o) o blk' ∧ Rep w' (fun _ => False) (owM o) v r) →
      a.defers = [] ∧ ∃ v, (results fn a.tmps).run P w' = .ok v w' ∧ ((Below 0 w w' ∧ ∀ g, g < w.heap.size → (∀ a k sz, o ≠ .lies g a k sz) → w'.heap[g]? = w.heap[g]?) ∧ ∃ v', Ending.returned v = .returned v' ∧ BlkOK w' (fun _ => False) (owM o) o blk' ∧ Rep w' (fun _ => False) (owM o) v' r) := by
    rintro a w' ⟨h1, v, h2, h3, h4, h5, h6⟩
    refine ⟨h1, v, h2, ⟨⟨h3.os, h3.tape, h3.output, ?_, fun k hk => absurd hk (Nat.not_lt_zero k), h3.drawn⟩, fun g hg ho => h4 g ⟨hg, ho⟩⟩, v, rfl, h5, h6⟩
    rcases Nat.lt_or_ge w'.heap.size w.heap.size with hlt | hge
    · exfalso
      by_cases hp : ∀ a k sz, o ≠ .lies (w.heap.size - 1) a k sz
      · have := h4 (w.heap.size - 1) ⟨by omega, hp⟩
        rw [Array.getElem?_eq_none (by omega), Array.getElem?_eq_getElem (by omega)] at this
        cases this
      · simp only [Classical.not_forall] at hp
        obtain ⟨a, k, sz, hp⟩ := hp
        have hp := Classical.not_not.1 hp
        rw [hp] at h5
        obtain ⟨_, _, _, _, _, cc, t, h7, _⟩ := h5
        rw [Array.getElem?_eq_none (by omega)] at h7
        cases h7
    · exact hge
  refine wp_mono (evG_ok hmix (fun _ _ _ _ he hi => he _ _ _ _ hone hi) c _ _ _ w (.inr hna) hi h) fun e a w' he => ?_
  cases e with
  | normal =>
    obtain ⟨st, ⟨ds, h1, h2, h3⟩, hi'⟩ := he
    exact fin (finM_core hi' h1 h2 h3 hs ho rfl hne)
  | ret =>
    obtain ⟨st, ⟨ds, h1, h2, h3⟩, hi'⟩ := he
    exact fin (finM_core hi' h1 h2 h3 hs ho rfl hne)
  | panic chain =>
    obtain ⟨d, ⟨st, hk⟩, _⟩ := he
    exact hk.elim
  | exit id => obtain ⟨st, hk, _⟩ := he; exact hk.elim
  | _ => exact he.elim

end
end Go.Pv

/- Calls worked out: an evaluation that runs. -/
namespace Go.Pv

abbrev Calling := FuncId → List D → Option Outc

def stepR (st : St) (dst : Option Tmp) (d : D) (env : Env) (hp : Hp) : Option (X × St) :=
  if okDst st.n dst = true then some (.normal, { st with env := putE dst d env, hp := hp }) else none

def runCall (call : Calling) (fd : D) (args : List D) (id : Nat) (dst : Option Tmp) (st : St) : Option (X × St) :=
  match fd with
  | .clo (.func f) xs ys =>
    match purL (lkH st.hp) 64 (xs ++ args ++ ys) with
    | some args' =>
      match call f args' with
      | some (.ret r) => if (pureL (xs ++ args ++ ys) = true ∨ refless r = true) ∧ widR r ≤ 32 then stepR st dst (adopt id r).1 st.env ((adopt id r).2 ++ st.hp) else none
      | some (.pan d) => if pureL (xs ++ args ++ ys) = true ∨ panOK d = true then some (.pan d, st) else none
      | none => none
    | none => none
  | _ => none

def runOp (P : Program) (call : Calling) (o : Op) (id : Nat) (dst : Option Tmp) (st : St) : Option (X × St) :=
  match o with
  | .store t a x =>
    match storeD P (lkH st.hp) t (evalD st.env a) (evalD st.env x) with
    | some (b, blk) => stepR st dst .skip st.env (updH b blk st.hp)
    | none => none
  | .call { callee := .value f, args := args, .. } => runCall call (evalD st.env f) (args.toList.map (evalD st.env)) id dst st
  | .call { callee := .builtin .append, args := args, argTypes := ts } =>
    match args.toList, ts.toList with
    | [s, x], [t, t'] =>
      if t = t' then
        match appendD P (lkH st.hp) t (evalD st.env s) (evalD st.env x) with
        | some (none, blk) => stepR st dst (.os id 0 blk.rows.length) st.env ((id, blk) :: st.hp)
        | some (some b, blk) => stepR st dst (.os b 0 blk.rows.length) (purgeE b st.env) ((b, blk) :: purgeH b st.hp)
        | none => none
      else none
    | _, _ => none
  | .build t parts =>
    match buildD P t (parts.toList.map fun (i, x) => (i, evalD st.env x)) with
    | some d => stepR st dst d st.env st.hp
    | none => none
  | o =>
    match op0 P (evalD st.env) (lkH st.hp) o with
    | some d => stepR st dst d st.env st.hp
    | none =>
      match op1 P (evalD st.env) o with
      | some (ptr, blk) => stepR st dst (outD id ptr blk) st.env ((id, blk) :: st.hp)
      | none =>
        match nilB P (evalD st.env) (lkH st.hp) o with
        | some [b] => stepR st dst (.bool b) st.env st.hp
        | _ => none

def runOps (P : Program) (call : Calling) (all : List Oper) : List Oper → Nat → St → Option (X × St)
  | [], id, st => some (.normal, { st with nx := id })
  | o :: rest, id, st =>
    match (match o.guard with
      | none => some true
      | some (j, want) =>
        match guardD all st.env j with
        | some (some b) => some (b == want)
        | some none => some false
        | none => none) with
    | some true =>
      match runOp P call o.op id o.dst st with
      | some (.normal, st') => runOps P call all rest (id + 32) st'
      | r => r
    | some false => if okDst st.n o.dst = true then runOps P call all rest (id + 32) (st.put o.dst .skip) else none
    | none => none

abbrev CallingM := FuncId → List D → Blk → Option (D × Blk)

def firstOs : List D → Option Nat
  | [] => none
  | .os b _ _ :: _ => some b
  | _ :: ds => firstOs ds

def runCallM (callM : CallingM) (o : Op) (dst : Option Tmp) (st : St) : Option (X × St) :=
  match o with
  | .call { callee := .value f, args := args, .. } =>
    match evalD st.env f with
    | .clo (.func g) xs ys =>
      match firstOs (xs ++ args.toList.map (evalD st.env) ++ ys) with
      | some b =>
        match lkH st.hp b with
        | some blk =>
          match inL b (xs ++ args.toList.map (evalD st.env) ++ ys) with
          | some args' =>
            match callM g args' blk with
            | some (r, blk') => if scalR blk.rows = true then stepR st dst (outR b r) st.env (updH b blk' st.hp) else none
            | none => none
          | none => none
        | none => none
      | none => none
    | _ => none
  | _ => none

def runOpsM (P : Program) (call : Calling) (callM : CallingM) (all : List Oper) : List Oper → Nat → St → Option (X × St)
  | [], id, st => some (.normal, { st with nx := id })
  | o :: rest, id, st =>
    match (match o.guard with
      | none => some true
      | some (j, want) =>
        match guardD all st.env j with
        | some (some b) => some (b == want)
        | some none => some false
        | none => none) with
    | some true =>
      match runOp P call o.op id o.dst st with
      | some (.normal, st') => runOpsM P call callM all rest (id + 32) st'
      | some r => some r
      | none =>
        if o.guard.isNone = true then
          match runCallM callM o.op o.dst st with
          | some (.normal, st') => runOpsM P call callM all rest (id + 32) st'
          | _ => none
        else none
    | some false => if okDst st.n o.dst = true then runOpsM P call callM all rest (id + 32) (st.put o.dst .skip) else none
    | none => none

/-- The greatest m up to the given one that serves. -/
def searchM (l : List Oper) : Nat → Option Nat
  | 0 => bif chkDraw l 0 then some 0 else none
  | m + 1 => bif chkDraw l (m + 1) then some (m + 1) else searchM l m

def zsAt (ms : List Nat) (k : Nat) : List Nat := (List.range k).filter fun j => !(ms.getD k 0).testBit j
def zsOf (l : List Oper) (m : Nat) : List (List Nat) := (List.range (l.length - m)).map fun i => zsAt (masks l []) (m + i)
def searchL (l : List Oper) : Nat → Option Nat
  | 0 => bif chkDrawL l 0 (zsOf l 0) then some 0 else none
  | m + 1 => bif chkDrawL l (m + 1) (zsOf l (m + 1)) then some (m + 1) else searchL l m

def eq1 : D → D → Bool
  | .int k a, .int k' b => decide (k = k') && decide (a = b)
  | .bool a, .bool b => a == b
  | .str a, .str b => decide (a = b)
  | .os b o l, .os b' o' l' => b == b' && o == o' && l == l'
  | .op b o l, .op b' o' l' => b == b' && o == o' && l == l'
  | .nilsl, .nilsl => true
  | _, _ => false

/-- An operation's value that needs no new memory. -/
def val0 (P : Program) (call : Calling) (o : Op) (st : St) : Option D :=
  match o with
  | .store .. => none
  | .call { callee := .value f, args := args, .. } =>
    match evalD st.env f with
    | .clo (.func g) xs ys =>
      match purL (lkH st.hp) 64 (xs ++ args.toList.map (evalD st.env) ++ ys) with
      | some args' =>
        match call g args' with
        | some (.ret r) => if scal1 r = true then some r else none
        | _ => none
      | none => none
    | _ => none
  | .call { callee := .builtin .append, .. } => none
  | .build .. => none
  | o => op0 P (evalD st.env) (lkH st.hp) o

def againR (P : Program) (call : Calling) (all : List Oper) (st : St) (j : Nat) : Bool :=
  match all[j]? with
  | some o =>
    match o.dst, val0 P call o.op st with
    | some s, some d => okDst st.n (some s) && eq1 (lkE st.env s) d
    | _, _ => false
  | none => false

def runLine (P : Program) (call : Calling) (all : List Oper) (m : Nat) : List Oper → List (List Nat) → Nat → St → Option (X × St)
  | [], [], id, st => some (.normal, { st with nx := id })
  | o :: rest, z :: zs, id, st =>
    match runOp P call o.op id o.dst st with
    | some (.normal, st') => if z.all (againR P call all st') = true then runLine P call all m rest zs (id + 32 + 32 * m) st' else none
    | _ => none
  | _, _, _, _ => none

def runDraw (P : Program) (call : Calling) (l : List Oper) (st : St) : Option (X × St) :=
  if (st.hp.all fun x => decide (x.1 < st.nx)) = true then
    match searchM l (preA l).length with
    | some m =>
      if chkDraw l m = true then
        match runOps P call l (l.take m) st.nx st with
        | some (.normal, st') => runOps P call l (l.drop m) st'.nx st'
        | _ => none
      else none
    | none =>
      match searchL l (preA l).length with
      | some m =>
        if chkDrawL l m (zsOf l m) = true then
          match runOps P call l (l.take m) st.nx st with
          | some (.normal, st') => runLine P call l m (l.drop m) (zsOf l m) st'.nx st'
          | _ => none
        else none
      | none => none
  else none

def hasN : List Nat → Nat → Bool
  | [], _ => false
  | x :: l, n => bif x == n then true else hasN l n

/-- The last value of each slot. -/
def cleanE : List Nat → Env → Env
  | _, [] => []
  | seen, (s, d) :: e => bif hasN seen s then cleanE seen e else (s, d) :: cleanE (s :: seen) e

def clean (st : St) : St := { st with env := cleanE [] st.env }

def iter : Nat → (St → Option (X × St)) → St → Option (X × St)
  | 0, _, _ => none
  | n + 1, f, st =>
    match f (clean st) with
    | some (.normal, st') => iter n f st'
    | r => r

def runC (P : Program) (call : Calling) (callM : CallingM) (fuel : Nat) : Code → St → Option (X × St)
  | .skip, st => some (.normal, st)
  | .label _, st => some (.normal, st)
  | .region _ ops false, st => runOpsM P call callM ops.toList ops.toList st.nx st
  | .region _ ops true, st => runDraw P call ops.toList st
  | .seq a b, st =>
    match runC P call callM fuel a st with
    | some (.normal, st') => runC P call callM fuel b st'
    | r => r
  | .cond c a b, st =>
    match evalD st.env c with
    | .bool true => runC P call callM fuel a st
    | .bool false => runC P call callM fuel b st
    | _ => none
  | .block id c, st =>
    match runC P call callM fuel c st with
    | some (.exit id', st') => if id' = id then some (.normal, st') else some (.exit id', st')
    | r => r
  | .loop c, st => iter fuel (runC P call callM fuel c) st
  | .exit id, st => some (.exit id, st)
  | .ret, st => some (.ret, st)
  | .scope c, st => runC P call callM fuel c st
  | _, _ => none

def srcD (hp : Nat → Option Blk) (used : List Nat) : D → Src
  | .nilsl => .nil
  | .os b off len =>
    match hp b with
    | some blk => if off = 0 ∧ len = blk.rows.length ∧ hasN used b = false then .blk b else .pure
    | none => .pure
  | _ => .pure

def srcsD (hp : Nat → Option Blk) : List Nat → List D → List Src
  | _, [] => []
  | used, d :: ds =>
    match srcD hp used d with
    | .blk b => .blk b :: srcsD hp (b :: used) ds
    | s => s :: srcsD hp used ds

def finR (hp hpX : Nat → Option Blk) : List Src → List D → Option (List D)
  | [], [] => some []
  | s :: ss, d :: ds =>
    match (match s with
      | .pure => pur hpX 64 d
      | .nil => (match d with | .nilsl => some (.fr 0 []) | _ => none)
      | .blk b =>
        match hp b with
        | some blk => (match d with
          | .os b' 0 len => if b' = b ∧ len = blk.rows.length then
              (if blk.flat = true then some (.fr blk.k blk.rows) else match purR hpX 64 blk.rows with
                | some rows => if rows.length = len then some (.fr blk.k rows) else none
                | none => none)
            else none
          | _ => none)
        | none => none) with
    | some r => (finR hp hpX ss ds).map (r :: ·)
    | none => none
  | _, _ => none

def resAll (P : Program) (st : St) : List ResultVar → Option (List D)
  | [] => some []
  | rv :: l =>
    match resD P st rv with
    | some d => (resAll P st l).map (d :: ·)
    | none => none

/-- The cells, put back into the structs. -/
def regroup : List D → List D → List D
  | [], _ => []
  | .agg cs :: ds, rc => .agg (rc.take cs.length) :: regroup ds (rc.drop cs.length)
  | _ :: ds, r :: rc => r :: regroup ds rc
  | _ :: _, [] => []

def finD (P : Program) (rv : List ResultVar) (st : St) : Option D :=
  match resAll P st rv with
  | some ds =>
    let fc := ds.flatMap cellsD
    let ss := srcsD (lkH st.hp) [] fc
    match finR (lkH st.hp) (without (frsOf ss) (lkH st.hp)) ss fc with
    | some rc =>
      let rs := regroup ds rc
      if (frsOf ss).Nodup ∧ (rs.length = 1 → rs.all notTup = true) ∧ rc.all isCell = true then some (tupOf rs) else none
    | none => none
  | none => none

def resM (P : Program) (rv : List ResultVar) (st : St) : Option (D × Blk) :=
  match resAll P st rv, lkH st.hp 0 with
  | some ds, some blk => if scalR blk.rows = true ∧ okOut (tupOf ds) = true then some (tupOf ds, blk) else none
  | _, _ => none

def run1 (P : Program) (fuel : Nat) (call : Calling) (callM : CallingM) : Calling := fun f ds =>
    match P.funcs[f]? with
    | some fn =>
      match fn.body with
      | some c =>
        if (fn.name == "runtime.NumGoroutine") = false ∧ ds.length ≤ fn.ntmps then
          match runC P call callM fuel c ⟨argsE 0 ds, [], 0, fn.ntmps⟩ with
          | some (.normal, st) => (finD P fn.results.toList st).map .ret
          | some (.ret, st) => (finD P fn.results.toList st).map .ret
          | some (.pan d, _) => some (.pan d)
          | _ => none
        else none
      | none => none
    | none => none

def run1M (P : Program) (fuel : Nat) (call : Calling) (callM : CallingM) : CallingM := fun f ds blk =>
    match P.funcs[f]? with
    | some fn =>
      match fn.body with
      | some c =>
        if (fn.name == "runtime.NumGoroutine") = false ∧ ds.length ≤ fn.ntmps ∧ noAppC c = true then
          match runC P call callM fuel c ⟨argsE 0 ds, [(0, blk)], 1, fn.ntmps⟩ with
          | some (.normal, st) => resM P fn.results.toList st
          | some (.ret, st) => resM P fn.results.toList st
          | _ => none
        else none
      | none => none
    | none => none

/-- Calls worked out. -/
def runP (P : Program) (fuel : Nat) : Nat → Calling × CallingM
  | 0 => (fun _ _ => none, fun _ _ _ => none)
  | k + 1 => (run1 P fuel (runP P fuel k).1 (runP P fuel k).2, run1M P fuel (runP P fuel k).1 (runP P fuel k).2)

def runF (P : Program) (fuel k : Nat) : Calling := (runP P fuel k).1
def runFM (P : Program) (fuel k : Nat) : CallingM := (runP P fuel k).2

section
variable {P : Program} {call : Calling} {callM : CallingM}

theorem stepR_ok {st st' : St} {dst : Option Tmp} {d : D} {env : Env} {hp : Hp} {x : X} {K : X → St → Prop} (h : stepR st dst d env hp = some (x, st')) (hK : K x st') : stepK st dst d env hp K := by
  unfold stepR at h
  split at h
  · rename_i hd
    simp only [Option.some.injEq, Prod.mk.injEq] at h
    obtain ⟨rfl, rfl⟩ := h
    exact ⟨hd, hK⟩
  · cases h

theorem runCall_ok (hcall : ∀ f ds out, call f ds = some out → Contract P f ds out) {fd : D} {args : List D} {id : Nat} {dst : Option Tmp} {st st' : St} {x : X} {K : X → St → Prop}
    (h : runCall call fd args id dst st = some (x, st')) (hK : K x st') : evCall P fd args id dst st K := by
  unfold runCall at h
  split at h
  · rename_i f xs ys
    split at h
    · rename_i args' hp
      split at h
      · rename_i r hc
        split at h
        · rename_i hr
          exact ⟨args', .ret r, hp, hcall _ _ _ hc, hr.1, hr.2, stepR_ok h hK⟩
        · cases h
      · rename_i d hc
        split at h
        · rename_i hr
          simp only [Option.some.injEq, Prod.mk.injEq] at h
          obtain ⟨rfl, rfl⟩ := h
          exact ⟨args', .pan d, hp, hcall _ _ _ hc, hr, hK⟩
        · cases h
      · cases h
    · cases h
  · cases h

theorem runOp_ok (hcall : ∀ f ds out, call f ds = some out → Contract P f ds out) {o : Op} {id : Nat} {dst : Option Tmp} {st st' : St} {x : X} {K : X → St → Prop}
    (h : runOp P call o id dst st = some (x, st')) (hK : K x st') : evOp P o id dst st K := by
  unfold runOp at h
  unfold evOp
  split at h
  · split at h
    · rename_i h1
      simp only [h1]
      exact stepR_ok h hK
    · cases h
  · exact runCall_ok hcall h hK
  · split at h
    · rename_i heq1 heq2
      simp only [heq1, heq2]
      split at h
      · rename_i ht
        rw [if_pos ht]
        split at h
        · rename_i h1
          simp only [h1]
          exact stepR_ok h hK
        · rename_i h1
          simp only [h1]
          exact stepR_ok h hK
        · cases h
      · cases h
    · cases h
  · split at h
    · rename_i h1
      simp only [h1]
      exact stepR_ok h hK
    · cases h
  · split at h
    · rename_i h0
      simp only [h0]
      exact stepR_ok h hK
    · rename_i h0
      simp only [h0]
      split at h
      · rename_i h1
        simp only [h1]
        exact stepR_ok h hK
      · rename_i h1
        split at h
        · rename_i b h2
          simp only [h1, h2]
          intro b' hb
          simp only [List.mem_singleton] at hb
          subst hb
          exact stepR_ok h hK
        · cases h

theorem runOps_ok (hcall : ∀ f ds out, call f ds = some out → Contract P f ds out) {all : List Oper} : ∀ (l : List Oper) (id : Nat) (st st' : St) (x : X) (K : X → St → Prop),
    runOps P call all l id st = some (x, st') → K x st' → evOps P all l id st K
  | [], id, st, st', x, K, h, hK => by
    simp only [runOps, Option.some.injEq, Prod.mk.injEq] at h
    obtain ⟨rfl, rfl⟩ := h
    exact hK
  | o :: rest, id, st, st', x, K, h, hK => by
    have hrun : (match runOp P call o.op id o.dst st with
      | some (.normal, st') => runOps P call all rest (id + 32) st'
      | r => r) = some (x, st') → evOp P o.op id o.dst st (fun x st' => match x with
      | .normal => evOps P all rest (id + 32) st' K
      | x => K x st') := fun h => by
      split at h
      · rename_i st1 h1
        exact runOp_ok hcall h1 (K := fun x st' => match x with
          | .normal => evOps P all rest (id + 32) st' K
          | x => K x st') (runOps_ok hcall rest (id + 32) st1 st' x K h hK)
      · rename_i hn
        cases hr : runOp P call o.op id o.dst st with
        | none => rw [hr] at h; cases h
        | some r =>
          rw [hr] at h
          injection h with h
          subst h
          refine runOp_ok hcall hr ?_
          cases x with
          | normal => exact (hn _ hr).elim
          | _ => exact hK
    unfold runOps at h
    unfold evOps
    simp only
    split at h
    · rename_i hg
      split at hg
      · rename_i hgn
        simp only [hgn]
        exact hrun h
      · rename_i j want hgs
        simp only [hgs]
        split at hg
        · rename_i b hgd
          simp only [hgd]
          simp only [Option.some.injEq, beq_iff_eq] at hg
          subst hg
          exact ⟨fun _ => hrun h, fun hb => by cases b <;> cases hb⟩
        · cases hg
        · cases hg
    · rename_i hg
      split at h
      · rename_i hd
        have hrest := runOps_ok hcall rest (id + 32) _ st' x K h hK
        split at hg
        · cases hg
        · rename_i j want hgs
          simp only [hgs]
          split at hg
          · rename_i b hgd
            simp only [hgd]
            simp only [Option.some.injEq, beq_eq_false_iff_ne, ne_eq] at hg
            exact ⟨fun hb => (hg hb).elim, fun _ => ⟨hd, hrest⟩⟩
          · rename_i hgd
            simp only [hgd]
            exact ⟨hd, hrest⟩
          · cases hg
      · cases h
    · cases h

theorem firstOs_has : ∀ {ds : List D} {b : Nat}, firstOs ds = some b → hasOs b ds = true
  | [], b, h => by cases h
  | d :: ds, b, h => by
    cases d with
    | os b' o l =>
      simp only [firstOs, Option.some.injEq] at h
      subst h
      simp [hasOs]
    | _ => exact firstOs_has (ds := ds) h

theorem runCallM_ok (hcallM : ∀ f ds blk r blk', callM f ds blk = some (r, blk') → ContractM P f ds blk r blk') {o : Op} {dst : Option Tmp} {st st' : St} {x : X} {K : X → St → Prop}
    (h : runCallM callM o dst st = some (x, st')) (hK : K x st') : evCallM P o dst st K := by
  unfold runCallM at h
  unfold evCallM
  split at h
  · split at h
    · rename_i g xs ys hfd
      simp only [hfd]
      split at h
      · rename_i b hb
        split at h
        · rename_i blk hl
          split at h
          · rename_i args' hi
            split at h
            · rename_i r blk' hc
              split at h
              · rename_i hs
                refine ⟨b, blk, args', r, blk', hl, hs, hi, firstOs_has hb, hcallM _ _ _ _ _ hc, stepR_ok h hK⟩
              · cases h
            · cases h
          · cases h
        · cases h
      · cases h
    · cases h
  · cases h

theorem runCallM_normal {o : Op} {dst : Option Tmp} {st st' : St} {x : X} (h : runCallM callM o dst st = some (x, st')) : x = .normal := by
  unfold runCallM at h
  repeat' split at h
  all_goals first | (cases h; done) | skip
  unfold stepR at h
  split at h
  · injection h with h; injection h with h _; exact h.symm
  · cases h

theorem runOpsM_ok (hcall : ∀ f ds out, call f ds = some out → Contract P f ds out) (hcallM : ∀ f ds blk r blk', callM f ds blk = some (r, blk') → ContractM P f ds blk r blk') {all : List Oper} : ∀ (l : List Oper) (id : Nat) (st st' : St) (x : X) (K : X → St → Prop),
    runOpsM P call callM all l id st = some (x, st') → K x st' → evOpsM P all l id st K
  | [], id, st, st', x, K, h, hK => by
    simp only [runOpsM, Option.some.injEq, Prod.mk.injEq] at h
    obtain ⟨rfl, rfl⟩ := h
    exact hK
  | o :: rest, id, st, st', x, K, h, hK => by
    unfold runOpsM at h
    unfold evOpsM
    simp only
    split at h
    · rename_i hg
      split at h
      · rename_i st1 h1
        have h2 : evOp P o.op id o.dst st (fun x st' => match x with
          | .normal => evOpsM P all rest (id + 32) st' K
          | x => K x st') := runOp_ok hcall h1 (K := fun x st' => match x with
          | .normal => evOpsM P all rest (id + 32) st' K
          | x => K x st') (runOpsM_ok hcall hcallM rest (id + 32) st1 st' x K h hK)
        refine .inl ?_
        split at hg
        · rename_i hgn; simp only [hgn]; exact h2
        · rename_i j want hgs
          simp only [hgs]
          split at hg
          · rename_i b hgd
            simp only [hgd]
            simp only [Option.some.injEq, beq_iff_eq] at hg
            subst hg
            exact ⟨fun _ => h2, fun hb => by cases b <;> cases hb⟩
          · cases hg
          · cases hg
      · rename_i r hn hr
        injection h with h
        subst h
        have h2 : evOp P o.op id o.dst st (fun x st' => match x with
          | .normal => evOpsM P all rest (id + 32) st' K
          | x => K x st') := runOp_ok hcall hr (by
            cases x with
            | normal => exact (hn _ rfl).elim
            | _ => exact hK)
        refine .inl ?_
        split at hg
        · rename_i hgn; simp only [hgn]; exact h2
        · rename_i j want hgs
          simp only [hgs]
          split at hg
          · rename_i b hgd
            simp only [hgd]
            simp only [Option.some.injEq, beq_iff_eq] at hg
            subst hg
            exact ⟨fun _ => h2, fun hb => by cases b <;> cases hb⟩
          · cases hg
          · cases hg
      · split at h
        · rename_i hgn
          split at h
          · rename_i st1 h1
            exact .inr ⟨Option.isNone_iff_eq_none.1 hgn, .inl (runCallM_ok hcallM h1 (K := fun x st' => match x with
              | .normal => evOpsM P all rest (id + 32) st' K
              | x => K x st') (runOpsM_ok hcall hcallM rest (id + 32) st1 st' x K h hK))⟩
          · cases h
        · cases h
    · rename_i hg
      refine .inl ?_
      split at h
      · rename_i hd
        have hrest := runOpsM_ok hcall hcallM rest (id + 32) _ st' x K h hK
        split at hg
        · cases hg
        · rename_i j want hgs
          simp only [hgs]
          split at hg
          · rename_i b hgd
            simp only [hgd]
            simp only [Option.some.injEq, beq_eq_false_iff_ne, ne_eq] at hg
            exact ⟨fun hb => (hg hb).elim, fun _ => ⟨hd, hrest⟩⟩
          · rename_i hgd
            simp only [hgd]
            exact ⟨hd, hrest⟩
          · cases hg
      · cases h
    · cases h

theorem eq1_ok {a b : D} (h : eq1 a b = true) : a = b := by
  cases a <;> cases b <;> simp only [eq1, Bool.and_eq_true, decide_eq_true_eq, beq_iff_eq] at h <;> first | (cases h; done) | skip
  · obtain ⟨rfl, rfl⟩ := h; rfl
  · subst h; rfl
  · subst h; rfl
  · rfl
  · obtain ⟨⟨rfl, rfl⟩, rfl⟩ := h; rfl
  · obtain ⟨⟨rfl, rfl⟩, rfl⟩ := h; rfl

theorem scal1_refless {d : D} (h : scal1 d = true) : refless d = true := by
  cases d <;> first | (cases h; done) | rfl
theorem scal1_adopt {d : D} {id : Nat} (h : scal1 d = true) : adopt id d = (d, []) := by
  cases d <;> first | (cases h; done) | rfl
theorem scal1_wid {d : D} (h : scal1 d = true) : widR d ≤ 32 := by
  cases d <;> first | (cases h; done) | exact Nat.le_of_ble_eq_true rfl

theorem val0_ok (hcall : ∀ f ds out, call f ds = some out → Contract P f ds out) {o : Op} {st : St} {d : D} {s : Tmp} (h : val0 P call o st = some d) (hd : okDst st.n (some s) = true) {K : X → St → Prop} (hK : K .normal { st with env := (s, d) :: st.env }) (id : Nat) :
    evOp P o id (some s) st K := by
  unfold val0 at h
  unfold evOp
  split at h
  · cases h
  · split at h
    · rename_i g xs ys hf
      split at h
      · rename_i args' hp
        split at h
        · rename_i r hc
          split at h
          · rename_i hr
            injection h with h
            subst h
            show evCall P _ _ id _ st K
            rw [hf]
            refine ⟨args', .ret r, hp, hcall _ _ _ hc, .inr (scal1_refless hr), scal1_wid hr, hd, ?_⟩
            rw [scal1_adopt hr]
            exact hK
          · cases h
        · cases h
      · cases h
    · cases h
  · cases h
  · cases h
  · rename_i h1 h2 h3 h4
    split
    · rename_i t a x; exact (h1 t a x rfl).elim
    · rename_i f args ts; exact (h2 f args ts rfl).elim
    · rename_i args ts; exact (h3 args ts rfl).elim
    · rename_i t parts; exact (h4 t parts rfl).elim
    · simp only [h]
      exact ⟨hd, hK⟩

theorem againR_ok (hcall : ∀ f ds out, call f ds = some out → Contract P f ds out) {all : List Oper} {st : St} {j : Nat} (h : againR P call all st j = true) : again P all st j := by
  unfold againR at h
  unfold again
  split at h
  · rename_i o ho
    rw [ho]
    simp only
    split at h
    · rename_i s d hs hv
      simp only [Bool.and_eq_true] at h
      rw [hs]
      refine fun id => val0_ok hcall hv h.1 ?_ id
      refine ⟨rfl, rfl, rfl, fun t => ?_⟩
      show (if t = s then d else lkE st.env t) = _
      split
      · rename_i ht; rw [ht, eq1_ok h.2]
      · rfl
    · cases h
  · cases h

theorem runLine_ok (hcall : ∀ f ds out, call f ds = some out → Contract P f ds out) {all : List Oper} {m : Nat} : ∀ (l : List Oper) (zs : List (List Nat)) (id : Nat) (st st' : St) (x : X) (K : X → St → Prop),
    runLine P call all m l zs id st = some (x, st') → K x st' → evLine P all m l zs id st K
  | [], [], id, st, st', x, K, h, hK => by
    simp only [runLine, Option.some.injEq, Prod.mk.injEq] at h
    obtain ⟨rfl, rfl⟩ := h
    exact hK
  | [], _ :: _, _, _, _, _, _, h, _ => by cases h
  | _ :: _, [], _, _, _, _, _, h, _ => by cases h
  | o :: rest, z :: zs, id, st, st', x, K, h, hK => by
    simp only [runLine] at h
    simp only [evLine]
    split at h
    · rename_i st1 h1
      split at h
      · rename_i hz
        refine runOp_ok hcall h1 ⟨?_, runLine_ok hcall rest zs _ _ _ _ K h hK⟩
        have key : ∀ z : List Nat, z.all (againR P call all st1) = true → againAll P all st1 z := by
          intro z
          induction z with
          | nil => intro _; trivial
          | cons j z ih =>
            intro hz
            simp only [List.all_cons, Bool.and_eq_true] at hz
            exact ⟨againR_ok hcall hz.1, ih hz.2⟩
        exact key z hz
      · cases h
    · cases h

theorem lkE_cleanE : ∀ {env : Env} {seen : List Nat} {s : Nat}, hasN seen s = false → lkE (cleanE seen env) s = lkE env s
  | [], _, _, _ => rfl
  | (t, d) :: env, seen, s, h => by
    simp only [cleanE, lkE]
    cases hs : hasN seen t with
    | true =>
      simp only [cond_true]
      rw [lkE_cleanE h, if_neg]
      rintro rfl
      rw [h] at hs; cases hs
    | false =>
      simp only [cond_false, lkE]
      by_cases e : s = t
      · rw [if_pos e, if_pos e]
      · rw [if_neg e, if_neg e]
        refine lkE_cleanE ?_
        have : (t == s) = false := by simpa using Ne.symm e
        simp only [hasN, this, cond_false, h]

theorem invI_clean (st : St) {w0 : World} {S : Frm} {a : Act} {w : World} (hi : InvI w0 S st.nx st a w) : InvI w0 S (clean st).nx (clean st) a w := by
  obtain ⟨pu, ow, m1, m2, m3, m4, m5, m6, m7⟩ := hi
  exact ⟨pu, ow, m1, fun s => by
    show Rep w pu ow _ (lkE (cleanE [] st.env) s)
    rw [lkE_cleanE rfl]
    exact m2 s, m3, m4, m5, m6, m7⟩

theorem entails_clean (st : St) : Entails st (clean st) := fun _ _ _ _ _ hi => invI_clean st hi
theorem entailsK_clean (st : St) : EntailsK st (clean st) := fun _ _ _ _ _ hi => invI_clean st hi

theorem runC_ok {E : St → St → Prop} (hE : ∀ st, E st (clean st)) (hcall : ∀ f ds out, call f ds = some out → Contract P f ds out) (hcallM : ∀ f ds blk r blk', callM f ds blk = some (r, blk') → ContractM P f ds blk r blk') {fuel : Nat} : ∀ (c : Code) (st st' : St) (x : X) (K : X → St → Prop), runC P call callM fuel c st = some (x, st') → K x st' → evG E P c K st := by
  intro c
  induction c with
  | skip => intro st st' x K h hK; simp only [runC, Option.some.injEq, Prod.mk.injEq] at h; obtain ⟨rfl, rfl⟩ := h; exact hK
  | label l => intro st st' x K h hK; simp only [runC, Option.some.injEq, Prod.mk.injEq] at h; obtain ⟨rfl, rfl⟩ := h; exact hK
  | region id ops draw =>
    intro st st' x K h hK
    cases draw with
    | false => exact .inr (runOpsM_ok hcall hcallM _ _ _ _ _ _ h hK)
    | true =>
      unfold runC runDraw at h
      split at h
      · rename_i hdom
        split at h
        · rename_i m hm
          split at h
          · rename_i hc
            split at h
            · rename_i st1 h1
              exact .inl ⟨m, hc, hdom, runOps_ok hcall _ _ _ _ _ _ h1 (runOps_ok hcall _ _ _ _ _ _ h hK)⟩
            · cases h
          · cases h
        · split at h
          · rename_i m hm
            split at h
            · rename_i hc
              split at h
              · rename_i st1 h1
                exact .inr ⟨m, _, hc, hdom, runOps_ok hcall _ _ _ _ _ _ h1 (runLine_ok hcall _ _ _ _ _ _ _ h hK)⟩
              · cases h
            · cases h
          · cases h
      · cases h
  | seq a b iha ihb =>
    intro st st' x K h hK
    unfold runC at h
    split at h
    · rename_i st1 h1
      exact .inl (iha st st1 .normal (kSeq (evG E P b K) K) h1 (ihb _ _ _ _ h hK))
    · rename_i hn
      refine .inl (iha st st' x (kSeq (evG E P b K) K) h ?_)
      cases x with
      | normal => exact (hn _ h).elim
      | _ => exact hK
  | cond c a b iha ihb =>
    intro st st' x K h hK
    unfold runC at h
    split at h
    · rename_i hc; exact ⟨true, hc, (fun _ => iha _ _ _ _ h hK), (fun hf => by cases hf)⟩
    · rename_i hc; exact ⟨false, hc, (fun hf => by cases hf), fun _ => ihb _ _ _ _ h hK⟩
    · cases h
  | block id c ih =>
    intro st st' x K h hK
    unfold runC at h
    split at h
    · rename_i id' st1 h1
      split at h
      · rename_i he
        simp only [Option.some.injEq, Prod.mk.injEq] at h
        obtain ⟨rfl, rfl⟩ := h
        refine ih st st1 (.exit id') (kBlock id K) h1 ?_
        simp only [kBlock, if_pos he]
        exact hK
      · rename_i he
        simp only [Option.some.injEq, Prod.mk.injEq] at h
        obtain ⟨rfl, rfl⟩ := h
        refine ih st st1 (.exit id') (kBlock id K) h1 ?_
        simp only [kBlock, if_neg he]
        exact hK
    · rename_i hn
      refine ih st st' x (kBlock id K) h ?_
      cases x with
      | exit i => exact (hn _ _ h).elim
      | _ => exact hK
  | loop c ih =>
    intro st st' x K h hK
    have hx : ∀ (n : Nat) (st : St), iter n (runC P call callM fuel c) st = some (x, st') → x ≠ .normal := by
      intro n
      induction n with
      | zero => intro st h; cases h
      | succ n ihn =>
        intro st h
        unfold iter at h
        split at h
        · exact ihn _ h
        · rename_i hn
          rintro rfl
          exact hn _ h
    refine ⟨fun n s => ∃ s0, s = clean s0 ∧ iter n (runC P call callM fuel c) s0 = some (x, st'), fuel, ⟨clean st, hE st, st, rfl, h⟩, ?_⟩
    rintro n s ⟨s0, rfl, hs⟩
    cases n with
    | zero => cases hs
    | succ n =>
      unfold iter at hs
      split at hs
      · rename_i st1 h1
        refine ih _ _ _ _ h1 ?_
        exact ⟨n, clean st1, by omega, hE st1, st1, rfl, hs⟩
      · rename_i hn
        refine ih _ _ _ _ hs ?_
        cases x with
        | normal => exact (hn _ hs).elim
        | _ => exact hK
  | exit id => intro st st' x K h hK; simp only [runC, Option.some.injEq, Prod.mk.injEq] at h; obtain ⟨rfl, rfl⟩ := h; exact hK
  | ret => intro st st' x K h hK; simp only [runC, Option.some.injEq, Prod.mk.injEq] at h; obtain ⟨rfl, rfl⟩ := h; exact hK
  | scope c ih => intro st st' x K h hK; exact ih _ _ _ _ h hK
  | _ => intro st st' x K h hK; cases h

theorem resAll_map {st : St} : ∀ {rv : List ResultVar} {ds : List D}, resAll P st rv = some ds → rv.map (resD P st) = ds.map some
  | [], ds, h => by simp only [resAll, Option.some.injEq] at h; subst h; rfl
  | rv :: l, ds, h => by
    unfold resAll at h
    split at h
    · rename_i d hd
      obtain ⟨ds', h1, rfl⟩ := Option.map_eq_some_iff.1 h
      simp only [List.map_cons, hd, resAll_map h1]
    · cases h

theorem finR_ok {hp hpX : Nat → Option Blk} : ∀ {ss : List Src} {ds rs : List D}, finR hp hpX ss ds = some rs → finL hp hpX ss ds rs
  | [], [], rs, h => by simp only [finR, Option.some.injEq] at h; subst h; trivial
  | [], _ :: _, _, h => by cases h
  | _ :: _, [], _, h => by cases h
  | s :: ss, d :: ds, rs, h => by
    unfold finR at h
    split at h
    · rename_i r hr
      obtain ⟨rs', h1, rfl⟩ := Option.map_eq_some_iff.1 h
      refine ⟨?_, finR_ok h1⟩
      cases s with
      | pure => exact hr
      | nil =>
        simp only at hr
        split at hr
        · injection hr with hr; exact ⟨rfl, 0, hr.symm⟩
        · cases hr
      | blk b =>
        simp only at hr
        split at hr
        · rename_i blk hb
          split at hr
          · split at hr
            · rename_i hl
              obtain ⟨rfl, rfl⟩ := hl
              split at hr
              · rename_i hf
                injection hr with hr
                exact ⟨blk, blk.rows, rfl, hb, hr.symm, by rw [if_pos hf]⟩
              · rename_i hf
                split at hr
                · rename_i rows hp'
                  split at hr
                  · rename_i hlen
                    injection hr with hr
                    exact ⟨blk, rows, by rw [hlen], hb, hr.symm, by rw [if_neg hf]; exact hp'⟩
                  · cases hr
                · cases hr
            · cases hr
          · cases hr
        · cases hr
    · cases h

theorem finL_len {hp hpX : Nat → Option Blk} : ∀ {ss : List Src} {ds rs : List D}, finL hp hpX ss ds rs → rs.length = ds.length
  | [], [], [], _ => rfl
  | _ :: _, _ :: _, _ :: _, h => by simp [finL_len h.2]
  | [], _ :: _, _, h => h.elim
  | [], [], _ :: _, h => h.elim
  | _ :: _, [], _, h => by simp [finL] at h
  | _ :: _, _ :: _, [], h => by simp [finL] at h

theorem regroup_ok : ∀ {ds rc : List D}, rc.length = (ds.flatMap cellsD).length → rc.all isCell = true → (regroup ds rc).flatMap cellsD = rc ∧ ds.map (fun d => (isCell d, (cellsD d).length)) = (regroup ds rc).map (fun d => (isCell d, (cellsD d).length))
  | [], rc, h, _ => by simp at h; subst h; exact ⟨rfl, rfl⟩
  | d :: ds, rc, h, ha => by
    cases hc : isCell d with
    | false =>
      obtain ⟨cs, rfl⟩ := not_cell hc
      rw [List.flatMap_cons, List.length_append] at h
      simp only [cellsD] at h
      simp only [regroup]
      have hd : (rc.drop cs.length).all isCell = true := by
        rw [List.all_eq_true] at ha ⊢
        exact fun x hx => ha x (List.mem_of_mem_drop hx)
      obtain ⟨h1, h2⟩ := regroup_ok (ds := ds) (rc := rc.drop cs.length) (by rw [List.length_drop]; omega) hd
      refine ⟨by rw [List.flatMap_cons, h1]; simp [cellsD], ?_⟩
      rw [List.map_cons, List.map_cons, h2]
      congr 1
      simp only [isCell, cellsD, List.length_take, Prod.mk.injEq, true_and]
      omega
    | true =>
      rw [List.flatMap_cons, List.length_append, cellsD_cell hc] at h
      cases rc with
      | nil => rw [List.length_nil, List.length_singleton] at h; omega
      | cons r rc =>
        simp only [List.all_cons, Bool.and_eq_true] at ha
        obtain ⟨h1, h2⟩ := regroup_ok (ds := ds) (rc := rc) (by rw [List.length_cons, List.length_singleton] at h; omega) ha.2
        have hr : regroup (d :: ds) (r :: rc) = r :: regroup ds rc := by cases d <;> first | (cases hc; done) | rfl
        rw [hr]
        refine ⟨by rw [List.flatMap_cons, h1, cellsD_cell ha.1]; rfl, ?_⟩
        simp only [List.map_cons, h2, cellsD_cell hc, cellsD_cell ha.1, hc, ha.1]
        rfl

theorem finD_ok {rv : List ResultVar} {st : St} {r : D} (h : finD P rv st = some r) : Fin P rv st r := by
  unfold finD at h
  split at h
  · rename_i ds hds
    simp only at h
    split at h
    · rename_i rc hrc
      split at h
      · rename_i hc
        injection h with h
        have hfl := finR_ok hrc
        obtain ⟨h1, h2⟩ := regroup_ok (finL_len hfl) hc.2.2
        refine .inr ⟨_, ds, regroup ds rc, resAll_map hds, hc.1, ?_, h.symm, hc.2.1, h2, ?_⟩
        · rw [h1]; exact hfl
        · rw [h1]; exact hc.2.2
      · cases h
    · cases h
  · cases h

theorem run1_ok (hmix : P.follows .mixedOrders = true) {fuel : Nat} (hcall : ∀ f ds out, call f ds = some out → Contract P f ds out) (hcallM : ∀ f ds blk r blk', callM f ds blk = some (r, blk') → ContractM P f ds blk r blk')
    (f : FuncId) (ds : List D) (out : Outc) (h : run1 P fuel call callM f ds = some out) : Contract P f ds out := by
  unfold run1 at h
  split at h
  · rename_i fn hf
    split at h
    · rename_i c hb
      split at h
      · rename_i hn
        refine contract_of hmix hf hb hn.1 hn.2 ?_
        split at h
        · rename_i st hr
          obtain ⟨r, h1, rfl⟩ := Option.map_eq_some_iff.1 h
          exact runC_ok entails_clean hcall hcallM c _ _ _ _ hr ⟨r, rfl, finD_ok h1⟩
        · rename_i st hr
          obtain ⟨r, h1, rfl⟩ := Option.map_eq_some_iff.1 h
          exact runC_ok entails_clean hcall hcallM c _ _ _ _ hr ⟨r, rfl, finD_ok h1⟩
        · rename_i d st hr
          injection h with h
          exact runC_ok entails_clean hcall hcallM c _ _ _ _ hr h.symm
        · cases h
      · cases h
    · cases h
  · cases h

theorem resM_ok {rv : List ResultVar} {st : St} {r : D} {blk' : Blk} (h : resM P rv st = some (r, blk')) : (∃ ds, rv.map (resD P st) = ds.map some ∧ r = tupOf ds ∧ lkH st.hp 0 = some blk') ∧ scalR blk'.rows = true ∧ okOut r = true := by
  unfold resM at h
  split at h
  · rename_i ds blk h1 h2
    split at h
    · rename_i h3
      injection h with h
      injection h with h4 h5
      subst h4 h5
      exact ⟨⟨ds, resAll_map h1, rfl, h2⟩, h3.1, h3.2⟩
    · cases h
  · cases h

theorem run1M_ok (hmix : P.follows .mixedOrders = true) {fuel : Nat} (hcall : ∀ f ds out, call f ds = some out → Contract P f ds out) (hcallM : ∀ f ds blk r blk', callM f ds blk = some (r, blk') → ContractM P f ds blk r blk')
    (f : FuncId) (ds : List D) (blk : Blk) (r : D) (blk' : Blk) (h : run1M P fuel call callM f ds blk = some (r, blk')) : ContractM P f ds blk r blk' := by
  unfold run1M at h
  split at h
  · rename_i fn hf
    split at h
    · rename_i c hb
      split at h
      · rename_i hn
        split at h
        · rename_i st hr
          obtain ⟨h1, h2, h3⟩ := resM_ok h
          exact contractM_of hmix hf hb hn.1 hn.2.1 hn.2.2 h2 h3 (runC_ok entailsK_clean hcall hcallM c _ _ _ _ hr h1)
        · rename_i st hr
          obtain ⟨h1, h2, h3⟩ := resM_ok h
          exact contractM_of hmix hf hb hn.1 hn.2.1 hn.2.2 h2 h3 (runC_ok entailsK_clean hcall hcallM c _ _ _ _ hr h1)
        · cases h
      · cases h
    · cases h
  · cases h

theorem runP_ok (hmix : P.follows .mixedOrders = true) {fuel : Nat} : ∀ k : Nat, (∀ f ds out, (runP P fuel k).1 f ds = some out → Contract P f ds out) ∧ ∀ f ds blk r blk', (runP P fuel k).2 f ds blk = some (r, blk') → ContractM P f ds blk r blk'
  | 0 => ⟨fun _ _ _ h => (by cases h), fun _ _ _ _ _ h => (by cases h)⟩
  | k + 1 => ⟨run1_ok hmix (runP_ok hmix k).1 (runP_ok hmix k).2, run1M_ok hmix (runP_ok hmix k).1 (runP_ok hmix k).2⟩

/-- What runs, holds. -/
theorem runF_ok (hmix : P.follows .mixedOrders = true) {fuel : Nat} (k : Nat) (f : FuncId) (ds : List D) (out : Outc) (h : runF P fuel k f ds = some out) : Contract P f ds out := (runP_ok hmix k).1 f ds out h

end
end Go.Pv

/- Arguments read as plain values; a law's frame. -/
namespace Go.Pv


def Zone (w : World) : Nat → Prop := fun g => g < w.heap.size

def CRep (w : World) (cs : List Value) (ds : List D) : Prop := cs.length = ds.length ∧ ∀ (i : Nat) (v : Value) (d : D), cs[i]? = some v → ds[i]? = some d → RepP w (Zone w) v d

/-- What a type's cells read as. -/
structure Reads (P : Program) (t : TypeId) {α : Type} (ok : α → Prop) (f : α → List D) : Prop where
  h : ∀ {H : Type} {enc : TypeId × Value → H} {w : World} {base : Nat} {spare : Nat → Bool} {held : Bool} {fuel : Nat} {cs : List Value} {x : DataW H × List MemPlace},
    DataW.trod enc P w base spare held fuel t cs = some x → ∃ a : α, ok a ∧ CRep w cs (f a)
  k : ∀ a, ok a → (f a).length = P.cellsOf t

section
variable {P : Program} {w : World} {t e : TypeId}

theorem CRep.one {v : Value} {d : D} (h : RepP w (Zone w) v d) : CRep w [v] [d] := ⟨rfl, fun i v' d' h1 h2 => by
  cases i with
  | zero => simp at h1 h2; subst h1 h2; exact h
  | succ i => simp at h1⟩

theorem Reads.map {α β : Type} {ok : α → Prop} {f : α → List D} {ok' : β → Prop} {f' : β → List D} (h : Reads P t ok f) (g : α → β) (hf : ∀ a, ok a → f' (g a) = f a) (hok : ∀ a, ok a → ok' (g a)) (hk : ∀ b, ok' b → (f' b).length = P.cellsOf t) : Reads P t ok' f' :=
  ⟨fun h' => by obtain ⟨a, h1, h2⟩ := h.h h'; exact ⟨g a, hok a h1, by rw [hf a h1]; exact h2⟩, hk⟩

theorem reads_int {k : IntKind} (ht : P.underlying t = some (.int k)) (hc : P.cellsOf t = 1) : Reads P t (fun n : Int => (Lit.int k n).wf = true) (fun n => [.int k n]) :=
  ⟨fun h => by obtain ⟨n, rfl, _, hw⟩ := DataW.trod_int ht h; exact ⟨n, hw, .one (.int k n)⟩, fun _ _ => by rw [hc]; rfl⟩

def I64 (n : Int) : Prop := -9223372036854775808 ≤ n ∧ n ≤ 9223372036854775807

theorem reads_i64 (ht : P.underlying t = some (.int .i64)) (hc : P.cellsOf t = 1) : Reads P t I64 (fun n => [.int .i64 n]) :=
  (reads_int ht hc).map id (fun _ _ => rfl) (fun _ h => bounds_i64 h) fun _ _ => by rw [hc]; rfl

theorem reads_bool (ht : P.underlying t = some .bool) (hc : P.cellsOf t = 1) : Reads P t (fun _ : Bool => True) (fun b => [.bool b]) :=
  ⟨fun h => by obtain ⟨b, rfl, _⟩ := DataW.trod_bool ht h; exact ⟨b, trivial, .one (.bool b)⟩, fun _ _ => by rw [hc]; rfl⟩

theorem reads_str (ht : P.underlying t = some .string) (hc : P.cellsOf t = 1) : Reads P t (fun s : ByteArray => s.size ≤ maxLen) (fun s => [.str s]) :=
  ⟨fun h => by obtain ⟨s, rfl, _, hs⟩ := DataW.trod_string ht h; exact ⟨s, hs, .one (.str s)⟩, fun _ _ => by rw [hc]; rfl⟩

theorem list_of {α : Type} {p : Nat → α → Prop} : ∀ {n : Nat}, (∀ i, i < n → ∃ a, p i a) → ∃ l : List α, l.length = n ∧ ∀ i (hi : i < l.length), p i l[i]
  | 0, _ => ⟨[], rfl, fun i hi => by simp at hi⟩
  | n + 1, h => by
    obtain ⟨l, hl, hp⟩ := list_of (n := n) fun i hi => h i (by omega)
    obtain ⟨a, ha⟩ := h n (by omega)
    refine ⟨l ++ [a], by simp [hl], fun i hi => ?_⟩
    rw [List.getElem_append]
    split
    · exact hp i _
    · have : i = n := by simp at hi; omega
      subst this
      simpa using ha

theorem cell_lt {a : Addr} {v : Value} (h : w.cell? a = some v) : a.block < w.heap.size := by
  unfold World.cell? at h
  split at h
  · rename_i hb
    exact (Array.getElem?_eq_some_iff.1 hb).1
  · cases h

theorem add_add' (a : Addr) (m n : Nat) : (a.add m).add n = a.add (m + n) := by
  unfold Addr.add
  by_cases hm : m = 0 <;> by_cases hn : n = 0 <;> simp [hm, hn, Nat.add_assoc]

theorem reads_slice {α : Type} {ok : α → Prop} {f : α → List D} {k : Nat} (ht : P.underlying t = some (.slice e)) (he : Reads P e ok f) (hk : P.cellsOf e = k) (hp : 0 < k) (hc : P.cellsOf t = 1) :
    Reads P t (fun l : List α => l.length ≤ maxLen ∧ ∀ a ∈ l, ok a) (fun l => [.sl (l.map f)]) := by
  refine ⟨fun {H enc w base spare held fuel cs x} h => ?_, fun _ _ => by rw [hc]; rfl⟩
  rcases DataW.trod_slice ht h with ⟨rfl, _⟩ | ⟨a, len, cap, elems, rest, n, _, rfl, _, hb, hl, hm, hlen, hel, _, _⟩
  · refine ⟨[], ⟨Nat.zero_le _, by simp⟩, .one ?_⟩
    exact .sl none 0 [] 0 (fun _ _ => .bool false) (Nat.le_refl _) (by simp) (by simp) fun i j d hd => by simp [cellAt] at hd
  · have hex : ∀ i, i < len → ∃ a' : α, ok a' ∧ ∃ cs', CRep w cs' (f a') ∧ cs'.length = k ∧ ∀ j, j < k → w.cell? (a.add (i * k + j)) = cs'[j]? := fun i hi => by
      have h1 := hel i hi
      have hi' : i < elems.length := by omega
      rw [List.getElem?_eq_getElem hi'] at h1
      obtain ⟨cs', h2, h3⟩ := Option.bind_eq_some_iff.1 h1
      obtain ⟨a', h4, h5⟩ := he.h h3
      obtain ⟨_, h6, h7⟩ := World.cells?_some h2
      refine ⟨a', h4, cs', h5, h6.trans hk, fun j hj => ?_⟩
      rw [← h7 j (by omega), hk, add_add']
    obtain ⟨l, hll, hl'⟩ := list_of hex
    refine ⟨l, ⟨by omega, fun a' ha => ?_⟩, .one ?_⟩
    · obtain ⟨i, hi, rfl⟩ := List.mem_iff_getElem.1 ha
      exact (hl' i hi).1
    · have hlen' : len = (l.map f).length := by simp [hll]
      rw [hlen']
      refine .sl (some a) cap (l.map f) k (fun i j => (w.cell? (a.add (i * k + j))).getD undef) (by omega) (fun r hr => ?_) (fun hne => ?_) fun i j d hd => ?_
      · obtain ⟨a', ha, rfl⟩ := List.mem_map.1 hr
        obtain ⟨i, hi, rfl⟩ := List.mem_iff_getElem.1 ha
        exact (he.k _ (hl' i hi).1).trans hk
      · have h0 : 0 < l.length := by
          cases l with
          | nil => simp at hne
          | cons _ _ => simp
        have hcell : ∀ i j, i < l.length → j < k → ∃ v, w.cell? (a.add (i * k + j)) = some v := fun i j hi hj => by
          obtain ⟨_, cs', _, h2, h3⟩ := hl' i hi
          exact ⟨cs'[j]'(by omega), by rw [h3 j hj, List.getElem?_eq_getElem]⟩
        obtain ⟨v0, hv0⟩ := hcell 0 0 h0 hp
        have hsp : a.spot = none := by simpa [Addr.add] using World.cell?_spot hv0
        obtain ⟨b, off, sp⟩ := a
        simp only at hsp
        subst hsp
        refine ⟨b, off, rfl, ?_, fun i j hi hj => ?_⟩
        · have := cell_lt hv0
          simpa [Addr.add, Zone] using this
        · obtain ⟨v, hv⟩ := hcell i j (by simpa using hi) hj
          rw [hv]
          rw [Addr.add_spotless] at hv
          rw [Nat.add_assoc, hv]
          rfl
      · unfold cellAt at hd
        obtain ⟨r, hr, hj⟩ := Option.bind_eq_some_iff.1 hd
        rw [List.getElem?_map, Option.map_eq_some_iff] at hr
        obtain ⟨a', ha, rfl⟩ := hr
        obtain ⟨hi, rfl⟩ := List.getElem?_eq_some_iff.1 ha
        obtain ⟨hok, cs', ⟨h1, h2⟩, h3, h4⟩ := hl' i hi
        have hjk : j < k := by
          have := (List.getElem?_eq_some_iff.1 hj).1
          rw [he.k _ hok, hk] at this
          exact this
        rw [h4 j hjk]
        have hv : cs'[j]? = some (cs'[j]'(by omega)) := List.getElem?_eq_getElem _
        rw [hv]
        exact h2 j _ d hv hj

/-- The fields of a struct from a place on. -/
structure ReadsF (P : Program) (fs : List Field) (o total : Nat) {α : Type} (ok : α → Prop) (f : α → List D) : Prop where
  k : ∀ a, ok a → (f a).length = total
  h : ∀ {H : Type} {enc : TypeId × Value → H} {w : World} {base : Nat} {spare : Nat → Bool} {held : Bool} {n : Nat} {cs : List Value},
    (∀ (i : Nat) (fd : Field), fs[i]? = some fd → ∃ y, DataW.trod enc P w base spare held n fd.type ((cs.drop fd.offset).take (P.cellsOf fd.type)) = some y) → o + total ≤ cs.length →
      ∃ a : α, ok a ∧ CRep w ((cs.drop o).take total) (f a)

theorem readsF_nil {o : Nat} : ReadsF P [] o 0 (fun _ : Unit => True) (fun _ => []) := ⟨fun _ _ => rfl, fun _ _ => ⟨(), trivial, by simp, fun i v d h1 h2 => by simp at h2⟩⟩

theorem readsF_cons {α β : Type} {fd : Field} {fs : List Field} {o k total : Nat} {ok : α → Prop} {f : α → List D} {ok' : β → Prop} {f' : β → List D} (h1 : Reads P fd.type ok f) (hk : P.cellsOf fd.type = k) (ho : fd.offset = o) (h2 : ReadsF P fs (o + k) total ok' f') :
    ReadsF P (fd :: fs) o (k + total) (fun x : α × β => ok x.1 ∧ ok' x.2) (fun x => f x.1 ++ f' x.2) := by
  refine ⟨fun a ha => by rw [List.length_append, h1.k _ ha.1, h2.k _ ha.2, hk], fun {H enc w base spare held n cs} h hl => ?_⟩
  obtain ⟨y, hy⟩ := h 0 fd rfl
  obtain ⟨a, ha, hca⟩ := h1.h hy
  obtain ⟨b, hb, hcb⟩ := h2.h (cs := cs) (fun i fd hi => h (i + 1) fd (by simpa using hi)) (by omega)
  refine ⟨(a, b), ⟨ha, hb⟩, ?_⟩
  have e : (cs.drop o).take (k + total) = (cs.drop o).take k ++ (cs.drop (o + k)).take total := by
    rw [List.take_add, List.drop_drop]
  rw [e]
  rw [ho, hk] at hca
  have hl1 : ((cs.drop o).take k).length = (f a).length := hca.1
  refine ⟨by simp only [List.length_append, hca.1, hcb.1], fun i v d e1 e2 => ?_⟩
  simp only at e2
  rw [List.getElem?_append] at e1 e2
  rw [hl1] at e1
  split at e1
  · rename_i hi
    rw [if_pos hi] at e2
    exact hca.2 i v d e1 e2
  · rename_i hi
    rw [if_neg hi] at e2
    exact hcb.2 _ v d e1 e2

theorem reads_struct {α : Type} {fs : Array Field} {total : Nat} {ok : α → Prop} {f : α → List D} (ht : P.underlying t = some (.struct fs)) (hc : P.cellsOf t = total) (h : ReadsF P fs.toList 0 total ok f) : Reads P t ok f := by
  refine ⟨fun {H enc w base spare held fuel cs x} hx => ?_, fun a ha => (h.k a ha).trans hc.symm⟩
  obtain ⟨xs, n, _, _, hl, hxs, hf⟩ := DataW.trod_struct ht hx
  rw [hc] at hl
  obtain ⟨a, ha, hr⟩ := h.h (cs := cs) (fun i fd hi => by
    have hi' : fs[i]? = some fd := by rw [← Array.getElem?_toList]; exact hi
    have hlt : i < xs.length := by rw [hxs]; exact (Array.getElem?_eq_some_iff.1 hi').1
    exact ⟨_, (hf i fd hi').trans (List.getElem?_eq_getElem hlt)⟩) (by omega)
  refine ⟨a, ha, ?_⟩
  rw [List.drop_zero, ← hl, List.take_length] at hr
  exact hr

/-- An array of so many elements. -/
theorem reads_array {α : Type} {n k : Nat} {ok : α → Prop} {f : α → List D} (ht : P.underlying t = some (.array n e)) (he : Reads P e ok f) (hk : P.cellsOf e = k) (hc : P.cellsOf t = n * k) : Reads P t (fun l : List α => l.length = n ∧ ∀ a ∈ l, ok a) (fun l => l.flatMap f) := by
  have len : ∀ l : List α, (∀ a ∈ l, ok a) → (l.flatMap f).length = l.length * k := fun l => by
    induction l with
    | nil => intro _; simp
    | cons a l ih => intro h; rw [List.flatMap_cons, List.length_append, he.k a (h a (by simp)), hk, ih fun a ha => h a (by simp [ha]), List.length_cons, Nat.succ_mul, Nat.add_comm]
  refine ⟨fun {H enc w base spare held fuel cs x} hx => ?_, fun l hl => by rw [len l hl.2, hl.1, hc]⟩
  obtain ⟨xs, m, _, _, hl, hxs, hf⟩ := DataW.trod_array ht hx
  rw [hc] at hl
  obtain ⟨l, hll, hp⟩ := list_of (p := fun i a => ok a ∧ CRep w ((cs.drop (i * k)).take k) (f a)) (n := n) fun i hi => by
    have := hf i hi
    rw [List.getElem?_eq_getElem (by omega), hk] at this
    exact he.h this
  refine ⟨l, ⟨hll, fun a ha => by obtain ⟨i, hi, rfl⟩ := List.mem_iff_getElem.1 ha; exact (hp i hi).1⟩, ?_⟩
  have key : ∀ (l : List α) (o : Nat) (cs : List Value), o * k + l.length * k = cs.length → (∀ i (hi : i < l.length), ok l[i] ∧ CRep w ((cs.drop ((o + i) * k)).take k) (f l[i])) → CRep w (cs.drop (o * k)) (l.flatMap f) := by
    intro l
    induction l with
    | nil =>
      intro o cs hcs _
      refine ⟨by simp; simp at hcs; omega, fun i v d h1 h2 => by simp at h2⟩
    | cons a l ih =>
      intro o cs hcs h
      have h0 := h 0 (by simp)
      simp only [Nat.add_zero, List.getElem_cons_zero] at h0
      have h1 := ih (o + 1) cs (by rw [Nat.add_mul, Nat.one_mul]; rw [List.length_cons, Nat.add_mul, Nat.one_mul] at hcs; omega) fun i hi => by
        have := h (i + 1) (by simp; omega)
        rw [show o + 1 + i = o + (i + 1) by omega]
        simpa using this
      have e1 : cs.drop (o * k) = (cs.drop (o * k)).take k ++ cs.drop ((o + 1) * k) := by
        conv => lhs; rw [← List.take_append_drop k (cs.drop (o * k))]
        rw [List.drop_drop, Nat.add_mul, Nat.one_mul]
      rw [e1, List.flatMap_cons]
      have hla : ((cs.drop (o * k)).take k).length = (f a).length := h0.2.1
      refine ⟨by simp only [List.length_append, h0.2.1, h1.1], fun i v d e2 e3 => ?_⟩
      rw [List.getElem?_append] at e2 e3
      rw [hla] at e2
      split at e2
      · rename_i hi
        rw [if_pos hi] at e3
        exact h0.2.2 i v d e2 e3
      · rename_i hi
        rw [if_neg hi] at e3
        exact h1.2 _ v d e2 e3
  have := key l 0 cs (by rw [hll]; omega) fun i hi => by rw [Nat.zero_add]; exact hp i hi
  simpa using this

/-- The values of parameters. -/
structure ReadsA (P : Program) (ts : List TypeId) {α : Type} (ok : α → Prop) (f : α → List D) : Prop where
  h : ∀ {H : Type} {enc : TypeId × Value → H} {w : World} {base : Nat} {args : List Value} {ds : List (DataW H)} {p : List MemPlace}, (∀ (j : Nat) t v, ts[j]? = some t → args[j]? = some v → Value.okWide P w .any base t v) →
    DataW.TrodAll enc P w 0 (fun _ => true) true ts args ds p → ∃ a : α, ok a ∧ CRep w args (f a)

theorem readsA_nil : ReadsA P [] (fun _ : Unit => True) (fun _ => []) := ⟨fun {H enc w base args ds p} _ h => by
  obtain ⟨rfl, _⟩ : args = [] ∧ True := by
    cases args with
    | nil => exact ⟨rfl, trivial⟩
    | cons _ _ => exact h.elim
  exact ⟨(), trivial, rfl, fun i v d h1 h2 => by simp at h1⟩⟩

def oneCell (d : TypeDesc) : Bool := match d with
  | .int _ | .bool | .string | .slice _ => true
  | _ => false
def manyCells (d : TypeDesc) : Bool := match d with
  | .struct _ | .array _ _ => true
  | _ => false

theorem cells_one {u : TypeDesc} {v : Value} {base : Nat} (hu : P.underlying t = some u) (ho : oneCell u = true) (hv : Value.okWide P w .any base t v) : v.cells = #[v] := by
  cases v with
  | agg cs =>
    unfold Value.okWide at hv
    rw [hu] at hv
    cases u <;> first | (cases ho; done) | skip
    all_goals
      unfold Cell.okWide Cell.ok at hv
      rw [hu] at hv
      exact hv.elim
  | _ => rfl

theorem readsA_cons {α β : Type} {ts : List TypeId} {u : TypeDesc} {ok : α → Prop} {f : α → List D} {g : α → D} {ok' : β → Prop} {f' : β → List D} (hu : P.underlying t = some u)
    (h1 : Reads P t ok f) (ho : (oneCell u = true ∧ ∀ a, f a = [g a]) ∨ (manyCells u = true ∧ ∀ a, g a = .agg (f a))) (h2 : ReadsA P ts ok' f') :
    ReadsA P (t :: ts) (fun x : α × β => ok x.1 ∧ ok' x.2) (fun x => g x.1 :: f' x.2) := by
  refine ⟨fun {H enc w base args ds p} hok h => ?_⟩
  match args, ds, p, h with
  | [], [], _, h => exact h.elim
  | [], _ :: _, _, h => exact h.elim
  | _ :: _, [], _, h => exact h.elim
  | v :: vs, d :: ds, _, ⟨p1, q1, ⟨fuel, ht⟩, hr, _⟩ =>
    obtain ⟨a, ha, hca⟩ := h1.h ht
    obtain ⟨b, hb, hcb⟩ := h2.h (args := vs) (fun j t v h1 h2 => hok (j + 1) t v (by simpa using h1) (by simpa using h2)) hr
    have hv := hok 0 t v rfl rfl
    have hrep : RepP w (Zone w) v (g a) := by
      rcases ho with ⟨h1, hg⟩ | ⟨h1, hg⟩
      · rw [cells_one hu h1 hv, hg] at hca
        exact hca.2 0 v (g a) rfl rfl
      · unfold Value.okWide at hv
        rw [hu] at hv
        cases u <;> first | (cases h1; done) | skip
        all_goals
          obtain ⟨cs, rfl, _, _⟩ := hv
          rw [hg]
          refine .agg cs _ (by simpa [Value.cells] using hca.1) fun i v d e1 e2 => hca.2 i v d (by simpa [Value.cells] using e1) e2
    refine ⟨(a, b), ⟨ha, hb⟩, by simp [hcb.1], fun i v' d' e1 e2 => ?_⟩
    cases i with
    | zero => simp at e1 e2; subst e1 e2; exact hrep
    | succ i => exact hcb.2 i v' d' (by simpa using e1) (by simpa using e2)

theorem ReadsA.map {α β : Type} {ts : List TypeId} {ok : α → Prop} {f : α → List D} {ok' : β → Prop} {f' : β → List D} (h : ReadsA P ts ok f) (g : α → β) (hf : ∀ a, ok a → f' (g a) = f a) (hok : ∀ a, ok a → ok' (g a)) : ReadsA P ts ok' f' :=
  ⟨fun h1 h2 => by obtain ⟨a, h3, h4⟩ := h.h h1 h2; exact ⟨g a, hok a h3, by rw [hf a h3]; exact h4⟩⟩

theorem trodAll_stay {H : Type} {enc : TypeId × Value → H} {W W' : World} (hl : laidOutB P = true) (hb : Below W.heap.size W W') : ∀ {ts : List TypeId} {vs : List Value} {ds : List (DataW H)} {ps : List MemPlace},
    (ts.all fun t => P.readableRec t && decide (t < P.types.size)) = true → DataW.TrodAll enc P W 0 (fun _ => true) true ts vs ds ps → DataW.TrodAll enc P W' 0 (fun b => decide (b < W.heap.size)) true ts vs ds ps
  | [], [], [], _, _, h => h
  | t :: ts, v :: vs, d :: ds, _, hr, ⟨p, q, h1, h2, e⟩ => by
    simp only [List.all_cons, Bool.and_eq_true, decide_eq_true_eq] at hr
    have hlt : ∀ x ∈ p, x.block < W.heap.size := by obtain ⟨m, hm⟩ := h1; exact DataW.trod_lt m _ _ _ hm
    exact ⟨p, q, Go.RowKit.Below.trod hl hr.1.1 hr.1.2 h1 hb.kit hlt, trodAll_stay hl hb hr.2 h2, e⟩
  | [], [], _ :: _, _, _, h => h.elim
  | [], _ :: _, _, _, _, h => h.elim
  | _ :: _, [], _, _, _, h => h.elim
  | _ :: _, _ :: _, [], _, _, h => h.elim

theorem trodAll_len {H : Type} {enc : TypeId × Value → H} {W : World} {base : Nat} {sp : Nat → Bool} {held : Bool} : ∀ {ts : List TypeId} {vs : List Value} {ds : List (DataW H)} {ps : List MemPlace}, DataW.TrodAll enc P W base sp held ts vs ds ps → ds.length = ts.length
  | [], [], [], _, _ => rfl
  | _ :: _, _ :: _, _ :: _, _, ⟨_, _, _, h, _⟩ => by simp [trodAll_len h]
  | [], [], _ :: _, _, h => h.elim
  | [], _ :: _, _, _, h => h.elim
  | _ :: _, [], _, _, h => h.elim
  | _ :: _, _ :: _, [], _, h => h.elim

/-- A law: whatever its arguments read as, it returns true and leaves memory as it was. -/
theorem law_frame {H : Type} {enc : TypeId × Value → H} {α : Type} {ok : α → Prop} {f' : α → List D} {f : FuncId} {fn : Func} {s : ChangeSpec} {tb : TypeId} (hvars : s.vars = []) (hR : ReadsA P fn.params.toList ok f')
    (hs : ∀ ds : List (DataW H), ds.length = fn.params.toList.length → s.fn H ds = { results := [.lit (.bool true)], args := ds })
    (hres : fn.resultTypes = #[tb]) (hb : P.underlying tb = some .bool) (hl : laidOutB P = true) (hrec : (fn.params.toList.all fun t => P.readableRec t && decide (t < P.types.size)) = true)
    (con : ∀ a, ok a → Contract P f (f' a) (.ret (.bool true))) (W : World) (base : Nat) (args : Array Value) (ds gs : List (DataW H)) (before : List MemPlace)
    (hval : ∀ (j : Nat) t v, fn.params[j]? = some t → args[j]? = some v → Value.okWide P W .any base t v)
    (hW : DataW.Whole enc P fn.params.toList s.vars false W args.toList ds gs before) : Calls P f args W fun e W' => ∃ v, e = .returned v ∧ s.post enc P fn false true false false W args v W' := by
  have hW' := hW
  obtain ⟨p, q, hA, hV, rfl, _, _⟩ := hW
  obtain ⟨a, ha, hrep⟩ := hR.h (fun j t v h1 h2 => hval j t v (by simpa using h1) (by simpa using h2)) hA
  refine ((con a ha).2 (Zone W) W args (fun g hg => hg) ⟨by simpa using hrep.1, fun i v d h1 h2 => hrep.2 i v d (by simpa using h1) h2⟩).mono fun e W' ⟨hbel, Q, hQ, v, he, hr⟩ => ?_
  subst he
  obtain ⟨ow, _, hv, _⟩ := hr 0
  obtain rfl := hv.bool_inv
  have hgs : gs = [] ∧ q = [] := by
    rw [hvars] at hV
    cases gs with
    | nil => exact ⟨rfl, hV⟩
    | cons _ _ => exact hV.elim
  obtain ⟨rfl, rfl⟩ := hgs
  have hfn := hs ds (trodAll_len hA)
  refine ⟨_, rfl, ds, [], p ++ [], [], p, [], hW', ?_, ?_, ?_, hbel.kit.frame _, fun h => by cases h⟩
  · rw [List.append_nil, hfn, hres]
    exact ⟨[], [], Go.RowKit.shut_bool hb true, rfl, rfl⟩
  · rw [List.append_nil, hfn]
    exact trodAll_stay hl hbel hrec hA
  · rw [List.append_nil, hfn, hvars]
    rfl

end
end Go.Pv

/- Calls with several results; division. -/
namespace Go.Pv

/-- Results that lead to no memory. -/
def plainE : D → Bool
  | .agg cs => cs.all scal1
  | d => scal1 d
def plainR : D → Bool
  | .tup ds => ds.all plainE
  | d => plainE d

theorem plain_adL : ∀ {cs : List D} {n : Nat}, cs.all scal1 = true → adL n cs = (cs, [])
  | [], _, _ => rfl
  | c :: cs, n, h => by
    simp only [List.all_cons, Bool.and_eq_true] at h
    have hc : adC n c = (c, []) := by cases c <;> first | rfl | (exact absurd h.1 (by simp [scal1]))
    simp only [adL, hc, plain_adL h.2, List.nil_append]

theorem plain_adE {d : D} {n : Nat} (h : plainE d = true) : adE n d = (d, []) := by
  cases d with
  | agg cs => simp only [adE, plain_adL (cs := cs) h]
  | _ => first | rfl | (exact absurd h (by simp [plainE, scal1]))

theorem plain_adT : ∀ {ds : List D} {n : Nat}, ds.all plainE = true → adT n ds = (ds, [])
  | [], _, _ => rfl
  | d :: ds, n, h => by
    simp only [List.all_cons, Bool.and_eq_true] at h
    simp only [adT, plain_adE h.1, plain_adT h.2, List.nil_append]

theorem plain_reflC {d : D} (h : scal1 d = true) : reflC d = true := by
  cases d <;> first | (cases h; done) | rfl
theorem plain_reflE {d : D} (h : plainE d = true) : reflE d = true := by
  cases d with
  | agg cs =>
    simp only [plainE, List.all_eq_true] at h
    simp only [reflE, List.all_eq_true]
    exact fun c hc => plain_reflC (h c hc)
  | _ => first | rfl | (exact absurd h (by simp [plainE, scal1]))

theorem plain_cases {d : D} (h : plainR d = true) : (∃ ds, d = .tup ds ∧ ds.all plainE = true) ∨ (plainE d = true ∧ (∀ n, adopt n d = adE n d) ∧ refless d = reflE d) := by
  cases d <;> first | exact .inl ⟨_, rfl, h⟩ | exact .inr ⟨h, fun _ => rfl, rfl⟩

theorem plain_adopt {d : D} {n : Nat} (h : plainR d = true) : adopt n d = (d, []) := by
  rcases plain_cases h with ⟨ds, rfl, h⟩ | ⟨h, h2, _⟩
  · simp only [adopt, plain_adT (ds := ds) h]
  · rw [h2]; exact plain_adE h

theorem plain_refless {d : D} (h : plainR d = true) : refless d = true := by
  rcases plain_cases h with ⟨ds, rfl, h1⟩ | ⟨h, _, h2⟩
  · rw [List.all_eq_true] at h1
    simp only [refless, List.all_eq_true]
    exact fun c hc => plain_reflE (h1 c hc)
  · rw [h2]; exact plain_reflE h

class TEq (P : Program) (t : TypeId) (ks : outParam (List Kd)) : Prop where h : eqOK P t = some ks
class TArr (P : Program) (t : TypeId) (len : outParam Nat) (k : outParam Nat) : Prop where h : ∃ e, P.underlying t = some (.array len e) ∧ P.cellsOf e = k ∧ 0 < k

section
variable {P : Program} {K : X → St → Prop} {env : Env} {hp : Hp} {nx n id : Nat} {s : Tmp} {x y f : Operand} {t t' : TypeId}

theorem go_fn_plain {args : List Operand} {ts : Array TypeId} {g : FuncId} {args' : List D} {r : D} (hp' : purL (lkH hp) 64 (args.map (evalD env)) = some args') (hc : Contract P g args' (.ret r)) (hr : plainR r = true) (hw : widR r ≤ 32) (hd : okDst n (some s) = true)
    (h : K .normal ⟨(s, r) :: env, hp, nx, n⟩) : evOp P (.call { callee := .value (.func g), args := args.toArray, argTypes := ts }) id (some s) ⟨env, hp, nx, n⟩ K :=
  go_call_fn hp' hc (by rw [plain_refless hr, Bool.or_true]) hw hd (by rw [plain_adopt hr]; exact h)

theorem tdiv_bound {a b : Int} (h : 0 ≤ a) (hb : 0 < b) : a.tdiv b = a / b ∧ 0 ≤ a / b ∧ a / b ≤ a := by
  refine ⟨Int.tdiv_eq_ediv_of_nonneg h, Int.ediv_nonneg h (by omega), ?_⟩
  exact Int.ediv_le_self b h

theorem go_quo_pos {a b : Int} (h1 : evalD env x = .int .i64 a) (h2 : evalD env y = .int .i64 b) (hd : okDst n (some s) = true) (hr : 0 ≤ a ∧ 0 < b ∧ a ≤ 9223372036854775807) (hk : K .normal ⟨(s, (.int .i64 (a / b))) :: env, hp, nx, n⟩) :
    evOp P (.binOp .quo t x y t') id (some s) ⟨env, hp, nx, n⟩ K := by
  obtain ⟨e1, e2, e3⟩ := tdiv_bound hr.1 hr.2.1
  exact go_quo h1 h2 hd (by omega) (by rw [e1]; omega) (by rw [e1]; exact hk)
theorem go_rem_pos {a b : Int} (h1 : evalD env x = .int .i64 a) (h2 : evalD env y = .int .i64 b) (hd : okDst n (some s) = true) (hr : 0 ≤ a ∧ 0 < b) (hk : K .normal ⟨(s, (.int .i64 (a % b))) :: env, hp, nx, n⟩) :
    evOp P (.binOp .rem t x y t') id (some s) ⟨env, hp, nx, n⟩ K := go_rem h1 h2 hd (by omega) (by rw [Int.tmod_eq_emod_of_nonneg hr.1]; exact hk)

theorem tdiv_abs {a b : Int} (hb : b ≠ 0) (h : -9223372036854775807 ≤ a ∧ a ≤ 9223372036854775807) : -9223372036854775808 ≤ a.tdiv b ∧ a.tdiv b ≤ 9223372036854775807 := by
  have h1 : (a.tdiv b).natAbs ≤ a.natAbs := by rw [Int.natAbs_tdiv]; exact Nat.div_le_self _ _
  omega

theorem go_quo_any {a b : Int} (h1 : evalD env x = .int .i64 a) (h2 : evalD env y = .int .i64 b) (hd : okDst n (some s) = true) (hb : b ≠ 0) (hr : -9223372036854775807 ≤ a ∧ a ≤ 9223372036854775807) (hk : K .normal ⟨(s, (.int .i64 (a.tdiv b))) :: env, hp, nx, n⟩) :
    evOp P (.binOp .quo t x y t') id (some s) ⟨env, hp, nx, n⟩ K := go_quo h1 h2 hd hb (tdiv_abs hb hr) hk

theorem go_bs0 {e k : Nat} [hs : TSlice P t e k] (hd : okDst n (some s) = true) (hk : K .normal ⟨(s, .os id 0 0) :: env, (id, ⟨0, true, []⟩) :: hp, nx, n⟩) : evOp P (.buildSlice t 0 #[]) id (some s) ⟨env, hp, nx, n⟩ K := by
  have h1 : op1 P (evalD env) (.buildSlice t 0 #[]) = some (false, ⟨0, true, []⟩) := by
    simp only [op1, hs.u, if_true]
    rw [if_pos ⟨rfl, by rw [hs.c]; exact hs.p⟩]
  unfold evOp
  simp only [op0, h1]
  exact ⟨hd, hk⟩

theorem go_bs1 {e k : Nat} {z v : D} {cs : List D} {fl : Bool} [hs : TSlice P t e k] [hz : TZero P e z] (h : evalD env x = v) (hkn : known v = true) (hcs : cellsD v = cs) (hzl : (cellsD z).length = k) (hl : cs.length = k) (hfl : cs.all lite = fl) (hsm : k ≤ 16777216) (hd : okDst n (some s) = true)
    (hk : K .normal ⟨(s, .os id 0 1) :: env, (id, ⟨k, fl, [cs]⟩) :: hp, nx, n⟩) : evOp P (.buildSlice t 1 #[(0, x)]) id (some s) ⟨env, hp, nx, n⟩ K := by
  subst h hcs hfl
  have h1 : op1 P (evalD env) (.buildSlice t 1 #[(0, x)]) = some (false, ⟨k, (cellsD (evalD env x)).all lite, [cellsD (evalD env x)]⟩) := by
    simp only [op1, hs.u, hz.h, Option.bind_some]
    rw [if_neg (by decide), if_pos ⟨hz.k, by rw [hzl, hs.c], by rw [hs.c]; exact hs.p, by rw [hs.c]; omega⟩]
    simp only [List.map_cons, List.map_nil, fillRows, List.replicate, List.length_cons, List.length_nil]
    rw [if_pos ⟨hkn, by rw [hl, hs.c], by omega⟩]
    simp [hs.c, flatRows]
  unfold evOp
  simp only [op0, h1]
  exact ⟨hd, hk⟩

theorem go_bs2 {e k : Nat} {z v v' : D} {cs cs' : List D} {fl : Bool} [hs : TSlice P t e k] [hz : TZero P e z] (h : evalD env x = v) (h' : evalD env y = v') (hkn : known v = true) (hkn' : known v' = true) (hcs : cellsD v = cs) (hcs' : cellsD v' = cs') (hzl : (cellsD z).length = k) (hl : cs.length = k) (hl' : cs'.length = k)
    (hfl : (cs.all lite && cs'.all lite) = fl) (hsm : k ≤ 1000000) (hd : okDst n (some s) = true)
    (hk : K .normal ⟨(s, .os id 0 2) :: env, (id, ⟨k, fl, [cs, cs']⟩) :: hp, nx, n⟩) : evOp P (.buildSlice t 2 #[(0, x), (1, y)]) id (some s) ⟨env, hp, nx, n⟩ K := by
  subst h hcs h' hcs' hfl
  have h1 : op1 P (evalD env) (.buildSlice t 2 #[(0, x), (1, y)]) = some (false, ⟨k, (cellsD (evalD env x)).all lite && (cellsD (evalD env y)).all lite, [cellsD (evalD env x), cellsD (evalD env y)]⟩) := by
    simp only [op1, hs.u, hz.h, Option.bind_some]
    rw [if_neg (by decide), if_pos ⟨hz.k, by rw [hzl, hs.c], by rw [hs.c]; exact hs.p, by rw [hs.c]; omega⟩]
    simp only [List.map_cons, List.map_nil, fillRows, List.replicate, List.length_cons, List.length_nil, List.length_set]
    rw [if_pos ⟨hkn, by rw [hl, hs.c], by omega⟩, if_pos ⟨hkn', by rw [hl', hs.c], by omega⟩]
    simp [hs.c, flatRows]
  unfold evOp
  simp only [op0, h1]
  exact ⟨hd, hk⟩

theorem go_bs1_int {e : Nat} {z : D} {k : IntKind} {a : Int} [hs : TSlice P t e 1] [hz : TZero P e z] (h : evalD env x = .int k a) (hzl : (cellsD z).length = 1) (hd : okDst n (some s) = true)
    (hk : K .normal ⟨(s, .os id 0 1) :: env, (id, ⟨1, true, [[.int k a]]⟩) :: hp, nx, n⟩) : evOp P (.buildSlice t 1 #[(0, x)]) id (some s) ⟨env, hp, nx, n⟩ K := go_bs1 h rfl rfl hzl rfl rfl (by omega) hd hk
theorem go_bs1_agg {e k : Nat} {z : D} {cs : List D} {fl : Bool} [hs : TSlice P t e k] [hz : TZero P e z] (h : evalD env x = .agg cs) (hzl : (cellsD z).length = k) (hl : cs.length = k) (hfl : cs.all lite = fl) (hsm : Nat.ble k 16777216 = true) (hd : okDst n (some s) = true)
    (hk : K .normal ⟨(s, .os id 0 1) :: env, (id, ⟨k, fl, [cs]⟩) :: hp, nx, n⟩) : evOp P (.buildSlice t 1 #[(0, x)]) id (some s) ⟨env, hp, nx, n⟩ K := go_bs1 h rfl rfl hzl hl hfl (Nat.le_of_ble_eq_true hsm) hd hk
theorem go_bs2_int {e : Nat} {z : D} {k k' : IntKind} {a a' : Int} [hs : TSlice P t e 1] [hz : TZero P e z] (h : evalD env x = .int k a) (h' : evalD env y = .int k' a') (hzl : (cellsD z).length = 1) (hd : okDst n (some s) = true)
    (hk : K .normal ⟨(s, .os id 0 2) :: env, (id, ⟨1, true, [[.int k a], [.int k' a']]⟩) :: hp, nx, n⟩) : evOp P (.buildSlice t 2 #[(0, x), (1, y)]) id (some s) ⟨env, hp, nx, n⟩ K := go_bs2 h h' rfl rfl rfl rfl hzl rfl rfl rfl (by omega) hd hk
theorem go_bs2_agg {e k : Nat} {z : D} {cs cs' : List D} {fl : Bool} [hs : TSlice P t e k] [hz : TZero P e z] (h : evalD env x = .agg cs) (h' : evalD env y = .agg cs') (hzl : (cellsD z).length = k) (hl : cs.length = k) (hl' : cs'.length = k) (hfl : (cs.all lite && cs'.all lite) = fl) (hsm : Nat.ble k 1000000 = true) (hd : okDst n (some s) = true)
    (hk : K .normal ⟨(s, .os id 0 2) :: env, (id, ⟨k, fl, [cs, cs']⟩) :: hp, nx, n⟩) : evOp P (.buildSlice t 2 #[(0, x), (1, y)]) id (some s) ⟨env, hp, nx, n⟩ K := go_bs2 h h' rfl rfl rfl rfl hzl hl hl' hfl (Nat.le_of_ble_eq_true hsm) hd hk

theorem pur_scal {h : Nat → Option Blk} {m : Nat} {d : D} (hs : scal1 d = true) : pur h (m + 1) d = some d := by
  cases d <;> first | (cases hs; done) | rfl
theorem purL_scal {h : Nat → Option Blk} : ∀ {cs : List D} {m : Nat}, cs.length < m → cs.all scal1 = true → purL h m cs = some cs
  | [], m + 1, _, _ => rfl
  | c :: cs, m + 2, hm, hs => by
    simp only [List.all_cons, Bool.and_eq_true] at hs
    simp only [purL, pur_scal (m := m) hs.1, purL_scal (cs := cs) (m := m + 1) (by simp at hm; omega) hs.2]
    rfl
theorem pur_plain {h : Nat → Option Blk} {d : D} (hs : plainE d = true) (hl : Nat.ble (widE d) 60 = true) : pur h 64 d = some d := by
  cases d with
  | agg cs =>
    have : cs.length ≤ 60 := Nat.le_of_ble_eq_true hl
    show (purL h 63 cs).map D.agg = _
    rw [purL_scal (by omega) hs]
    rfl
  | _ => exact pur_scal (m := 63) hs

theorem fin_tup2 {r1 r2 : ResultVar} {d1 d2 : D} (h1 : resD P ⟨env, hp, nx, n⟩ r1 = some d1) (h2 : resD P ⟨env, hp, nx, n⟩ r2 = some d2) (p1 : (plainE d1 && Nat.ble (widE d1) 60) = true) (p2 : (plainE d2 && Nat.ble (widE d2) 60) = true) : Fin P [r1, r2] ⟨env, hp, nx, n⟩ (.tup [d1, d2]) := by
  simp only [Bool.and_eq_true] at p1 p2
  exact fin2 (ds := [d1, d2]) (by simp [h1, h2]) ⟨pur_plain p1.1 p1.2, pur_plain p2.1 p2.2, trivial⟩ (by simp)
theorem fin_tup3 {r1 r2 r3 : ResultVar} {d1 d2 d3 : D} (h1 : resD P ⟨env, hp, nx, n⟩ r1 = some d1) (h2 : resD P ⟨env, hp, nx, n⟩ r2 = some d2) (h3 : resD P ⟨env, hp, nx, n⟩ r3 = some d3) (p1 : (plainE d1 && Nat.ble (widE d1) 60) = true) (p2 : (plainE d2 && Nat.ble (widE d2) 60) = true) (p3 : (plainE d3 && Nat.ble (widE d3) 60) = true) :
    Fin P [r1, r2, r3] ⟨env, hp, nx, n⟩ (.tup [d1, d2, d3]) := by
  simp only [Bool.and_eq_true] at p1 p2 p3
  exact fin2 (ds := [d1, d2, d3]) (by simp [h1, h2, h3]) ⟨pur_plain p1.1 p1.2, pur_plain p2.1 p2.2, pur_plain p3.1 p3.2, trivial⟩ (by simp)

theorem end_t2 {r1 r2 : ResultVar} {d1 d2 r : D} (h1 : resD P ⟨env, hp, nx, n⟩ r1 = some d1) (h2 : resD P ⟨env, hp, nx, n⟩ r2 = some d2) (p1 : (plainE d1 && Nat.ble (widE d1) 60) = true) (p2 : (plainE d2 && Nat.ble (widE d2) 60) = true) (e : D.tup [d1, d2] = r) : finK P [r1, r2] (.ret r) .ret ⟨env, hp, nx, n⟩ := e ▸ finK_ret (fin_tup2 h1 h2 p1 p2)
theorem end_t2' {r1 r2 : ResultVar} {d1 d2 r : D} (h1 : resD P ⟨env, hp, nx, n⟩ r1 = some d1) (h2 : resD P ⟨env, hp, nx, n⟩ r2 = some d2) (p1 : (plainE d1 && Nat.ble (widE d1) 60) = true) (p2 : (plainE d2 && Nat.ble (widE d2) 60) = true) (e : D.tup [d1, d2] = r) : finK P [r1, r2] (.ret r) .normal ⟨env, hp, nx, n⟩ := e ▸ finK_normal (fin_tup2 h1 h2 p1 p2)
theorem end_t3 {r1 r2 r3 : ResultVar} {d1 d2 d3 r : D} (h1 : resD P ⟨env, hp, nx, n⟩ r1 = some d1) (h2 : resD P ⟨env, hp, nx, n⟩ r2 = some d2) (h3 : resD P ⟨env, hp, nx, n⟩ r3 = some d3) (p1 : (plainE d1 && Nat.ble (widE d1) 60) = true) (p2 : (plainE d2 && Nat.ble (widE d2) 60) = true) (p3 : (plainE d3 && Nat.ble (widE d3) 60) = true)
    (e : D.tup [d1, d2, d3] = r) : finK P [r1, r2, r3] (.ret r) .ret ⟨env, hp, nx, n⟩ := e ▸ finK_ret (fin_tup3 h1 h2 h3 p1 p2 p3)
theorem end_t3' {r1 r2 r3 : ResultVar} {d1 d2 d3 r : D} (h1 : resD P ⟨env, hp, nx, n⟩ r1 = some d1) (h2 : resD P ⟨env, hp, nx, n⟩ r2 = some d2) (h3 : resD P ⟨env, hp, nx, n⟩ r3 = some d3) (p1 : (plainE d1 && Nat.ble (widE d1) 60) = true) (p2 : (plainE d2 && Nat.ble (widE d2) 60) = true) (p3 : (plainE d3 && Nat.ble (widE d3) 60) = true)
    (e : D.tup [d1, d2, d3] = r) : finK P [r1, r2, r3] (.ret r) .normal ⟨env, hp, nx, n⟩ := e ▸ finK_normal (fin_tup3 h1 h2 h3 p1 p2 p3)
/-- A struct of single values. -/
theorem end_agg {rv : ResultVar} {cs : List D} {r : D} (h : resD P ⟨env, hp, nx, n⟩ rv = some (.agg cs)) (hs : (cs.all scal1 && Nat.ble cs.length 60) = true) (e : D.agg cs = r) : finK P [rv] (.ret r) .ret ⟨env, hp, nx, n⟩ := by
  simp only [Bool.and_eq_true] at hs
  exact e ▸ finK_ret (fin1 h (pur_plain (d := .agg cs) hs.1 hs.2) rfl)
theorem end_agg' {rv : ResultVar} {cs : List D} {r : D} (h : resD P ⟨env, hp, nx, n⟩ rv = some (.agg cs)) (hs : (cs.all scal1 && Nat.ble cs.length 60) = true) (e : D.agg cs = r) : finK P [rv] (.ret r) .normal ⟨env, hp, nx, n⟩ := by
  simp only [Bool.and_eq_true] at hs
  exact e ▸ finK_normal (fin1 h (pur_plain (d := .agg cs) hs.1 hs.2) rfl)

/-- A whole variable is read. -/
theorem go_ld_agg {b k : Nat} {fl : Bool} {row : List D} [hs : TSh P t (.many k)] (h : evalD env x = .op b 0 0) (hb : lkH hp b = some ⟨k, fl, [row]⟩) (hl : row.length = k) (hd : okDst n (some s) = true) (hk : K .normal ⟨(s, .agg row) :: env, hp, nx, n⟩) : evOp P (.load t x) id (some s) ⟨env, hp, nx, n⟩ K := by
  refine go_load_own (sh' := .many k) h hb ?_ hd hk
  simp only [fromCells, getRow, List.getD_cons_zero, List.drop_zero]
  rw [if_pos (by omega), ← hl, List.take_length]
theorem go_ld_one {b : Nat} {fl : Bool} {c : D} [hs : TSh P t .one] (h : evalD env x = .op b 0 0) (hb : lkH hp b = some ⟨1, fl, [[c]]⟩) (hd : okDst n (some s) = true) (hk : K .normal ⟨(s, c) :: env, hp, nx, n⟩) : evOp P (.load t x) id (some s) ⟨env, hp, nx, n⟩ K :=
  go_load_own (sh' := .one) h hb rfl hd hk

/-- Structs built from single values, or from one struct. -/
theorem go_bd2_int {zs : List D} {k k' : IntKind} {a b : Int} [hl : TLay P t zs [(0, 1), (1, 1)]] (h : evalD env x = .int k a) (h' : evalD env y = .int k' b) (hz : zs.length = 2) (hd : okDst n (some s) = true) (hk : K .normal ⟨(s, .agg [.int k a, .int k' b]) :: env, hp, nx, n⟩) :
    evOp P (.build t #[(0, x), (1, y)]) id (some s) ⟨env, hp, nx, n⟩ K := by
  obtain ⟨z0, z1, rfl⟩ : ∃ z0 z1, zs = [z0, z1] := by
    match zs, hz with
    | [z0, z1], _ => exact ⟨z0, z1, rfl⟩
  refine go_build (parts := [(0, x), (1, y)]) ?_ hd hk
  simp only [List.map_cons, List.map_nil, h, h']
  rfl
theorem go_bd1_agg {zs cs : List D} {k : Nat} [hl : TLay P t zs [(0, k)]] (h : evalD env x = .agg cs) (hz : zs.length = k) (hc : cs.length = k) (hd : okDst n (some s) = true) (hk : K .normal ⟨(s, .agg cs) :: env, hp, nx, n⟩) :
    evOp P (.build t #[(0, x)]) id (some s) ⟨env, hp, nx, n⟩ K := by
  subst hc
  have hs : spliceL zs 0 cs = cs := by simp [spliceL, hz]
  refine go_build (parts := [(0, x)]) ?_ hd hk
  simp only [List.map_cons, List.map_nil, h]
  show (if known (.agg cs) = true ∧ cs.length = cs.length ∧ 0 + cs.length ≤ zs.length then fillD _ (spliceL zs 0 cs) [] else none) = some cs
  rw [if_pos ⟨rfl, rfl, by omega⟩, hs]
  rfl

theorem go_index_nat {α : Type} {e : TypeId} {k : Nat} {l : List α} {f : α → List D} {ik : IntKind} {j : Int} {i : Nat} [hs : TSlice P t e k] (h : evalD env x = .sl (l.map f)) (h2 : evalD env y = .int ik j) (hj : j = (i : Int)) (hk : ∀ a, (f a).length = k) (hd : okDst n (some s) = true)
    (hi : i < l.length) (hc : ∀ (hlt : i < l.length), K .normal ⟨(s, (.ptr (f l[i]))) :: env, hp, nx, n⟩) : evOp P (.indexAddr t x y) id (some s) ⟨env, hp, nx, n⟩ K := by
  subst hj
  exact go_index h h2 hk hd (by omega) fun hlt => by simpa only [Int.toNat_natCast] using hc hi

theorem go_ld_ptr {cs : List D} {k : Nat} [hs : TSh P t (.many k)] (h : evalD env x = .ptr cs) (hl : cs.length = k) (hd : okDst n (some s) = true) (hk : K .normal ⟨(s, .agg cs) :: env, hp, nx, n⟩) : evOp P (.load t x) id (some s) ⟨env, hp, nx, n⟩ K := by
  refine go_load (sh' := .many k) h ?_ hd hk
  simp only [fromCells]
  rw [if_pos (by omega), ← hl, List.take_length]

/-- Rows of single values. -/
def ScalF {α : Type} (f : α → List D) (k : Nat) : Prop := ∀ a, (f a).length = k ∧ (f a).all scal1 = true

theorem scal1_lite {d : D} (h : scal1 d = true) : lite d = true := by cases d <;> first | (cases h; done) | rfl
theorem scal1_cell1 {d : D} (h : scal1 d = true) (hu : known d = true) (hk : d ≠ .skip) : cell1 d = true := by cases d <;> first | (cases h; done) | (cases hu; done) | rfl | exact (hk rfl).elim
theorem scal1_ment {d : D} {b : Nat} (h : scal1 d = true) : ment b d = false := by cases d <;> first | (cases h; done) | rfl
theorem flat_map {α : Type} {f : α → List D} {k : Nat} (hf : ScalF f k) (l : List α) : flatRows (l.map f) = true := by
  simp only [flatRows, List.all_map, List.all_eq_true, Function.comp]
  exact fun a _ c hc => scal1_lite (List.all_eq_true.1 (hf a).2 c hc)
theorem scalR_map {α : Type} {f : α → List D} {k : Nat} (hf : ScalF f k) (l : List α) : scalR (l.map f) = true := by
  simp only [scalR, List.all_map, List.all_eq_true, Function.comp]
  exact fun a _ c hc => List.all_eq_true.1 (hf a).2 c hc

/-- A list of one's own, one element longer. -/
theorem go_app_map {α : Type} {f : α → List D} {e k b b2 len : Nat} {l : List α} {a : α} {fl2 : Bool} [hs : TSlice P t e k] (hf : ScalF f k) (h1 : evalD env x = .os b 0 len) (h2 : evalD env y = .os b2 0 1) (hb : lkH hp b = some ⟨k, true, l.map f⟩) (hlen : l.length = len) (hb2 : lkH hp b2 = some ⟨k, fl2, [f a]⟩)
    (hc1 : ((f a).all cell1) = true) (hz : zeroOK P e = true) (hby : Nat.ble (P.bytesOf e) 4096 = true) (hn : len ≤ 1000000000) (hd : okDst n (some s) = true)
    (hk : K .normal ⟨(s, .os b 0 (len + 1)) :: purgeE b env, (b, ⟨k, true, (l ++ [a]).map f⟩) :: purgeH b hp, nx, n⟩) : evOp P (.call { callee := .builtin .append, args := #[x, y], argTypes := #[t, t] }) id (some s) ⟨env, hp, nx, n⟩ K := by
  have hby' : P.bytesOf e ≤ 4096 := Nat.le_of_ble_eq_true hby
  have hap : appendD P (lkH hp) t (evalD env x) (evalD env y) = some (some b, ⟨k, true, (l ++ [a]).map f⟩) := by
    have hx : contentD (lkH hp) (.os b2 0 1) = some [f a] := by simp [contentD, hb2]
    have ho : contentD (lkH hp) (.os b 0 len) = some (l.map f) := by
      simp only [contentD, hb, Option.bind_some]
      rw [if_pos (by simp [hlen])]
      rw [List.drop_zero, List.take_of_length_le (by simp [hlen])]
    unfold appendD
    rw [hs.u, h1, h2]
    simp only [hx, ho, Option.bind_some]
    have hmul : (len + 1) * P.bytesOf e ≤ 140737488355328 := by
      have := Nat.mul_le_mul (show len + 1 ≤ 1000000001 by omega) hby'
      omega
    rw [if_pos]
    · rw [hb]
      simp only [Option.bind_some]
      rw [if_pos]
      · have hft : flatRows [f a] = true := by
          have := flat_map hf [a]
          simpa using this
        simp [hs.c, hft]
      · refine ⟨.inl hs.c.symm, fun r hr c hc => ?_⟩
        have : ∃ a', r = f a' := by
          simp only [List.mem_append, List.mem_map, List.mem_singleton] at hr
          rcases hr with ⟨a', _, rfl⟩ | rfl
          · exact ⟨a', rfl⟩
          · exact ⟨a, rfl⟩
        obtain ⟨a', rfl⟩ := this
        exact scal1_ment (List.all_eq_true.1 (hf a').2 c hc)
    · refine ⟨by rw [hs.c]; exact hs.p, fun r hr => ?_, fun r hr c hc => ?_, by simp [hlen]; exact hmul, by simp [hlen]; omega, hz, by simp [kOK, hb2, hs.c]⟩
      · simp only [List.mem_singleton] at hr
        rw [hr, (hf a).1, hs.c]
      · simp only [List.mem_singleton] at hr
        subst hr
        exact List.all_eq_true.1 hc1 c hc
  refine go_append_on hap hd ?_
  have e : (⟨k, true, (l ++ [a]).map f⟩ : Blk).rows.length = len + 1 := by simp [hlen]
  rw [e]
  exact hk

/-- A call that returns a new list, or one and a single value. -/
theorem go_fn_fr {α : Type} {f : α → List D} {k : Nat} {l : List α} {args : List Operand} {ts : Array TypeId} {g : FuncId} {args' : List D} (hp' : purL (lkH hp) 64 (args.map (evalD env)) = some args') (hc : Contract P g args' (.ret (.fr k (l.map f)))) (hf : ScalF f k) (hd : okDst n (some s) = true)
    (h : K .normal ⟨(s, .os id 0 l.length) :: env, (id, ⟨k, true, l.map f⟩) :: hp, nx, n⟩) : evOp P (.call { callee := .value (.func g), args := args.toArray, argTypes := ts }) id (some s) ⟨env, hp, nx, n⟩ K := by
  refine go_call_fn hp' hc ?_ (by simp [widR, widE]) hd ?_
  · have : refless (.fr k (l.map f)) = true := scalR_map hf l
    rw [this, Bool.or_true]
  · have e : adopt id (.fr k (l.map f)) = (.os id 0 l.length, [(id, ⟨k, true, l.map f⟩)]) := by
      simp [adopt, adE, adC, flat_map hf]
    rw [e]
    exact h
theorem go_fn_fr2 {α : Type} {f : α → List D} {k : Nat} {l : List α} {d2 : D} {args : List Operand} {ts : Array TypeId} {g : FuncId} {args' : List D} (hp' : purL (lkH hp) 64 (args.map (evalD env)) = some args') (hc : Contract P g args' (.ret (.tup [.fr k (l.map f), d2]))) (hf : ScalF f k) (h2 : scal1 d2 = true) (hd : okDst n (some s) = true)
    (h : K .normal ⟨(s, .tup [.os id 0 l.length, d2]) :: env, (id, ⟨k, true, l.map f⟩) :: hp, nx, n⟩) : evOp P (.call { callee := .value (.func g), args := args.toArray, argTypes := ts }) id (some s) ⟨env, hp, nx, n⟩ K := by
  have hw : widE d2 = 1 := by cases d2 <;> first | (cases h2; done) | rfl
  have hr2 : reflE d2 = true := plain_reflE (by cases d2 <;> first | (cases h2; done) | rfl)
  have ha2 : ∀ m, adE m d2 = (d2, []) := fun m => plain_adE (by cases d2 <;> first | (cases h2; done) | rfl)
  refine go_call_fn hp' hc ?_ (by simp [widR, hw]; simp [widE]) hd ?_
  · have : refless (.tup [.fr k (l.map f), d2]) = true := by
      simp only [refless, List.all_cons, List.all_nil, Bool.and_true, hr2]
      exact scalR_map hf l
    rw [this, Bool.or_true]
  · have e : adopt id (.tup [.fr k (l.map f), d2]) = (.tup [.os id 0 l.length, d2], [(id, ⟨k, true, l.map f⟩)]) := by
      simp only [adopt, adT, ha2]
      simp [adE, adC, flat_map hf]
    rw [e]
    exact h

/-- A new list is returned; with a single value. -/
theorem end_fr {α : Type} {f : α → List D} {rv : ResultVar} {b k : Nat} {l l' : List α} (h : resD P ⟨env, hp, nx, n⟩ rv = some (.os b 0 l.length)) (hb : lkH hp b = some ⟨k, true, l.map f⟩) (e : l = l') : finK P [rv] (.ret (.fr k (l'.map f))) .ret ⟨env, hp, nx, n⟩ := by
  subst e
  exact finK_ret (fin1_fr (rows' := l.map f) (by simpa using h) hb (by simp))
theorem fin_fr2 {r1 r2 : ResultVar} {b k len : Nat} {rows : List (List D)} {d2 : D} (h1 : resD P ⟨env, hp, nx, n⟩ r1 = some (.os b 0 len)) (hlen : rows.length = len) (hb : lkH hp b = some ⟨k, true, rows⟩) (h2 : resD P ⟨env, hp, nx, n⟩ r2 = some d2) (hs : scal1 d2 = true) : Fin P [r1, r2] ⟨env, hp, nx, n⟩ (.tup [.fr k rows, d2]) :=
  .inl ⟨[.blk b, .pure], [.os b 0 len, d2], [.fr k rows, d2], by simp [h1, h2], by simp [frsOf], ⟨⟨⟨k, true, rows⟩, rows, by rw [hlen], hb, rfl, by simp⟩, pur_scal (m := 63) hs, trivial⟩, rfl, fun h => by simp at h⟩
theorem fin_nil2 {r1 r2 : ResultVar} {k : Nat} {d2 : D} (h1 : resD P ⟨env, hp, nx, n⟩ r1 = some .nilsl) (h2 : resD P ⟨env, hp, nx, n⟩ r2 = some d2) (hs : scal1 d2 = true) : Fin P [r1, r2] ⟨env, hp, nx, n⟩ (.tup [.fr k [], d2]) :=
  .inl ⟨[.nil, .pure], [.nilsl, d2], [.fr k [], d2], by simp [h1, h2], by simp [frsOf], ⟨⟨rfl, k, rfl⟩, pur_scal (m := 63) hs, trivial⟩, rfl, fun h => by simp at h⟩

theorem go_min {k k' : IntKind} {a b : Int} {ts : Array TypeId} (h1 : evalD env x = .int k a) (h2 : evalD env y = .int k' b) (hd : okDst n (some s) = true) (hk : K .normal ⟨(s, .int k (min a b)) :: env, hp, nx, n⟩) : evOp P (.call { callee := .builtin .min, args := #[x, y], argTypes := ts }) id (some s) ⟨env, hp, nx, n⟩ K := by
  have h := evOp_min (P := P) (K := K) (env := env) (hp := hp) (nx := nx) (n := n) (id := id) (dst := some s) (x := x) (xs := [y]) (ts := ts)
  rw [show (#[x, y] : Array Operand) = (x :: [y]).toArray from rfl, h]
  refine ⟨.int k (min a b), ?_, hd, hk⟩
  simp only [List.map_cons, List.map_nil, foldD, h1, h2, min2D, Option.bind_some, Option.some.injEq, D.int.injEq, true_and]
  omega
theorem go_max {k k' : IntKind} {a b : Int} {ts : Array TypeId} (h1 : evalD env x = .int k a) (h2 : evalD env y = .int k' b) (hd : okDst n (some s) = true) (hk : K .normal ⟨(s, .int k (max a b)) :: env, hp, nx, n⟩) : evOp P (.call { callee := .builtin .max, args := #[x, y], argTypes := ts }) id (some s) ⟨env, hp, nx, n⟩ K := by
  have h := evOp_max (P := P) (K := K) (env := env) (hp := hp) (nx := nx) (n := n) (id := id) (dst := some s) (x := x) (xs := [y]) (ts := ts)
  rw [show (#[x, y] : Array Operand) = (x :: [y]).toArray from rfl, h]
  refine ⟨.int k (max a b), ?_, hd, hk⟩
  simp only [List.map_cons, List.map_nil, foldD, h1, h2, max2D, Option.bind_some, Option.some.injEq, D.int.injEq, true_and]
  omega

/-- A struct of three values. -/
theorem go_bd3 {zs : List D} {d1 d2 d3 : D} {z : Operand} [hl : TLay P t zs [(0, 1), (1, 1), (2, 1)]] (h1 : evalD env x = d1) (h2 : evalD env y = d2) (h3 : evalD env z = d3) (hz : zs.length = 3) (p : (scal1 d1 && scal1 d2 && scal1 d3 && known d1 && known d2 && known d3) = true) (hd : okDst n (some s) = true) (hk : K .normal ⟨(s, .agg [d1, d2, d3]) :: env, hp, nx, n⟩) :
    evOp P (.build t #[(0, x), (1, y), (2, z)]) id (some s) ⟨env, hp, nx, n⟩ K := by
  obtain ⟨z0, z1, z2, rfl⟩ : ∃ z0 z1 z2, zs = [z0, z1, z2] := by
    match zs, hz with
    | [z0, z1, z2], _ => exact ⟨z0, z1, z2, rfl⟩
  simp only [Bool.and_eq_true] at p
  obtain ⟨⟨⟨⟨⟨p1, p2⟩, p3⟩, p4⟩, p5⟩, p6⟩ := p
  have hc : ∀ d, scal1 d = true → cellsD d = [d] := fun d h => by cases d <;> first | (cases h; done) | rfl
  refine go_build (parts := [(0, x), (1, y), (2, z)]) ?_ hd hk
  simp only [List.map_cons, List.map_nil, h1, h2, h3]
  simp only [fillD, List.getElem?_cons_zero, List.getElem?_cons_succ, hc _ p1, hc _ p2, hc _ p3, p4, p5, p6]
  rfl

theorem go_bd3_sii {zs : List D} {a : ByteArray} {k k' : IntKind} {b c : Int} {z : Operand} [hl : TLay P t zs [(0, 1), (1, 1), (2, 1)]] (h1 : evalD env x = .str a) (h2 : evalD env y = .int k b) (h3 : evalD env z = .int k' c) (hz : zs.length = 3) (hd : okDst n (some s) = true) (hk : K .normal ⟨(s, .agg [.str a, .int k b, .int k' c]) :: env, hp, nx, n⟩) :
    evOp P (.build t #[(0, x), (1, y), (2, z)]) id (some s) ⟨env, hp, nx, n⟩ K := go_bd3 h1 h2 h3 hz rfl hd hk
theorem go_bd3_iii {zs : List D} {k k' k2 : IntKind} {a b c : Int} {z : Operand} [hl : TLay P t zs [(0, 1), (1, 1), (2, 1)]] (h1 : evalD env x = .int k a) (h2 : evalD env y = .int k' b) (h3 : evalD env z = .int k2 c) (hz : zs.length = 3) (hd : okDst n (some s) = true) (hk : K .normal ⟨(s, .agg [.int k a, .int k' b, .int k2 c]) :: env, hp, nx, n⟩) :
    evOp P (.build t #[(0, x), (1, y), (2, z)]) id (some s) ⟨env, hp, nx, n⟩ K := go_bd3 h1 h2 h3 hz rfl hd hk

/-- Structs compared. -/
theorem go_neq_agg {ks : List Kd} {a b : List D} {q : Bool} [he : TEq P t ks] (h1 : evalD env x = .agg a) (h2 : evalD env y = .agg b) (hq : cellsEq ks a b = some q) (hd : okDst n (some s) = true) (hk : K .normal ⟨(s, .bool !q) :: env, hp, nx, n⟩) : evOp P (.binOp .neq t x y t') id (some s) ⟨env, hp, nx, n⟩ K :=
  go_bin (d := .bool !q) (by rw [h1, h2]; simp [binD, he.h, hq]) hd hk
theorem go_eql_agg {ks : List Kd} {a b : List D} {q : Bool} [he : TEq P t ks] (h1 : evalD env x = .agg a) (h2 : evalD env y = .agg b) (hq : cellsEq ks a b = some q) (hd : okDst n (some s) = true) (hk : K .normal ⟨(s, .bool q) :: env, hp, nx, n⟩) : evOp P (.binOp .eql t x y t') id (some s) ⟨env, hp, nx, n⟩ K :=
  go_bin (d := .bool q) (by rw [h1, h2]; simp [binD, he.h, hq]) hd hk

/-- An element of an array of one's own. -/
theorem go_index_arr {len k : Nat} {b row off : Nat} {blk : Blk} {ik : IntKind} {i : Int} [ha : TArr P t len k] (h : evalD env x = .op b row off) (h2 : evalD env y = .int ik i) (hb : lkH hp b = some blk) (hd : okDst n (some s) = true) (hi : 0 ≤ i ∧ i < len)
    (hk : K .normal ⟨(s, .op b row (off + i.toNat * k)) :: env, hp, nx, n⟩) : evOp P (.indexAddr t x y) id (some s) ⟨env, hp, nx, n⟩ K := by
  rw [evOp_indexAddr]
  refine ⟨.op b row (off + i.toNat * k), ?_, hd, hk⟩
  obtain ⟨e, hu, hc, hp0⟩ := ha.h
  rw [h, h2]
  simp only [indexAddrD, hu, hb]
  rw [if_pos ⟨hi.1, hi.2, by omega⟩, hc]

theorem pur_own {h : Nat → Option Blk} {b k len m : Nat} {rows : List (List D)} (hb : h b = some ⟨k, true, rows⟩) (hl : rows.length = len) : pur h (m + 1) (.os b 0 len) = some (.sl rows) := by
  simp only [pur, hb, Option.bind_some]
  rw [if_pos (by omega), List.drop_zero, List.take_of_length_le (by omega)]
  rfl
theorem pur2_own {b1 b2 k1 k2 n1 n2 : Nat} {r1 r2 : List (List D)} (h1 : evalD env x = .os b1 0 n1) (h2 : evalD env y = .os b2 0 n2) (hb1 : lkH hp b1 = some ⟨k1, true, r1⟩) (hb2 : lkH hp b2 = some ⟨k2, true, r2⟩) (hl1 : r1.length = n1) (hl2 : r2.length = n2) :
    purL (lkH hp) 64 ([x, y].map (evalD env)) = some [.sl r1, .sl r2] := by
  simp only [List.map_cons, List.map_nil, h1, h2, purL, pur_own (m := 62) hb1 hl1, pur_own (m := 61) hb2 hl2, Option.bind_some, Option.map_some]

end
end Go.Pv

/- Elements of own lists whose rows are an image. -/
namespace Go.Pv
section
variable {P : Program} {K : X → St → Prop} {env : Env} {hp : Hp} {nx n id : Nat} {s : Tmp} {x y f : Operand} {t t' : TypeId}
theorem getRow_map {α : Type} {l : List α} {f : α → List D} {i : Nat} (hi : i < l.length) : getRow (l.map f) i = f l[i] := by
  simp [getRow, List.getD_eq_getElem?_getD, hi]
theorem go_index_om {α : Type} {e : TypeId} {k k' b len : Nat} {fl : Bool} {l : List α} {f : α → List D} {ik : IntKind} {j : Int} {i : Nat} [hs : TSlice P t e k] (h : evalD env x = .os b 0 len) (h2 : evalD env y = .int ik j) (hb : lkH hp b = some ⟨k', fl, l.map f⟩) (hj : j = (i : Int))
    (hd : okDst n (some s) = true) (hkk : k' = k) (hi : i < len ∧ len ≤ l.length) (hc : ∀ (hlt : i < l.length), K .normal ⟨(s, (.op b i 0)) :: env, hp, nx, n⟩) : evOp P (.indexAddr t x y) id (some s) ⟨env, hp, nx, n⟩ K := by
  subst hj
  refine go_index_own h h2 hb hd hkk ⟨by omega, ?_⟩ ?_
  · show 0 + len ≤ (l.map f).length
    rw [List.length_map]; omega
  · simpa only [Int.toNat_natCast, Nat.zero_add] using hc (by omega)
theorem go_load_om {α : Type} {sh' : Sh} {b i o k : Nat} {fl : Bool} {l : List α} {f : α → List D} {d : D} [hs : TSh P t sh'] (h : evalD env x = .op b i o) (hb : lkH hp b = some ⟨k, fl, l.map f⟩) (hi : i < l.length) (hc : fromCells sh' ((f l[i]).drop o) = some d) (hd : okDst n (some s) = true)
    (hk : K .normal ⟨(s, d) :: env, hp, nx, n⟩) : evOp P (.load t x) id (some s) ⟨env, hp, nx, n⟩ K :=
  go_load_own h hb (by show fromCells sh' ((getRow (l.map f) i).drop o) = some d; rw [getRow_map hi]; exact hc) hd hk
end
end Go.Pv

/- One element appended to a nil list. -/
namespace Go.Pv
section
variable {P : Program} {K : X → St → Prop} {env : Env} {hp : Hp} {nx n id : Nat} {s : Tmp} {x y f : Operand} {t t' : TypeId}
theorem go_app_nil {α : Type} {f : α → List D} {e k b2 : Nat} {a : α} {fl2 : Bool} [hs : TSlice P t e k] (hf : ScalF f k) (h1 : evalD env x = .nilsl) (h2 : evalD env y = .os b2 0 1) (hb2 : lkH hp b2 = some ⟨k, fl2, [f a]⟩)
    (hc1 : ((f a).all cell1) = true) (hz : zeroOK P e = true) (hby : Nat.ble (P.bytesOf e) 4096 = true) : appendD P (lkH hp) t (evalD env x) (evalD env y) = some (none, ⟨k, true, [a].map f⟩) := by
  have hby' : P.bytesOf e ≤ 4096 := Nat.le_of_ble_eq_true hby
  have hx : contentD (lkH hp) (.os b2 0 1) = some [f a] := by simp [contentD, hb2]
  unfold appendD
  rw [hs.u, h1, h2]
  have ho : contentD (lkH hp) .nilsl = some [] := rfl
  simp only [hx, ho, Option.bind_some]
  have hft : flatRows [f a] = true := by
    have := flat_map hf [a]
    simpa using this
  rw [if_pos]
  · simp [hs.c, hft]
  · refine ⟨by rw [hs.c]; exact hs.p, fun r hr => ?_, fun r hr c hc => ?_, by simp; omega, by simp, hz, by simp [kOK, hb2, hs.c]⟩
    · simp only [List.mem_singleton] at hr
      rw [hr, (hf a).1, hs.c]
    · simp only [List.mem_singleton] at hr
      subst hr
      exact List.all_eq_true.1 hc1 c hc
end
end Go.Pv

import Derived.Test.YtbojgmhpmcnfjaaVAB
import Derived.LoopN
import Derived.Scope
import Derived.OpenShut
import Derived.Below
import Derived.ChangeOld
import Derived.Carry
import Derived.Handed
import Derived.ProofKit
import Derived.ChangeShapes
import Derived.RowKit
/- Part of the proofs over Ytbojgmhpmcnfjaa: PvXb, PvX, PvY, PvZ, PwA, PwB, PwC, PwD, PwE, PwF, PwG, PwAa, PwH, PwJ, PwK, PwL, PwM, PwN, PwO, PwP, PwQ, PwR, PwS. -/
set_option linter.unusedVariables false
set_option linter.unusedSimpArgs false
set_option linter.unnecessarySimpa false
/- Regions whose order is open, with calls in line that write into an own block. -/
namespace Go.Pv


def evLineM (P : Program) (all : List Oper) (m : Nat) : List Oper → List (List Nat) → Nat → St → (X → St → Prop) → Prop
  | [], [], id, st, K => K .normal { st with nx := id }
  | o :: rest, z :: zs, id, st, K => evOp P o.op id o.dst st (onlyN fun st' => againAll P all st' z ∧ evLineM P all m rest zs (id + 32 + 32 * m) st' K) ∨
      evCallM P o.op o.dst st (onlyN fun st' => againAll P all st' z ∧ evLineM P all m rest zs (id + 32 + 32 * m) st' K) ∨
      evCallX P o.op o.dst st (onlyN fun st' => againAll P all st' z ∧ evLineM P all m rest zs (id + 32 + 32 * m) st' K) ∨
      evCopy P o.op o.dst st (onlyN fun st' => againAll P all st' z ∧ evLineM P all m rest zs (id + 32 + 32 * m) st' K)
  | _, _, _, _, _ => False

def evDrawM (P : Program) (all : List Oper) (m : Nat) (zs : List (List Nat)) (st : St) (K : X → St → Prop) : Prop :=
  (st.hp.all fun x => decide (x.1 < st.nx)) = true ∧
  evOps P all (all.take m) st.nx st (onlyN fun st' => evLineM P all m (all.drop m) zs st'.nx st' K)

section
variable {P : Program} {w w0 : World} {S : Frm} {all : List Oper} {m id0 n : Nat} {a : Act} {Q : Exit → Act → World → Prop}

theorem evCallM_frame {A : Nat → Prop} {E E2 : Env} {hp : Hp} {nx : Nat} {K : X → St → Prop} {o : Op} {dst : Option Tmp} (hA : ∀ s, A s → lkE E2 s = lkE E s) (ho : ∀ s ∈ slotsOf o, A s) (h : evCallM P o dst ⟨E, hp, nx, n⟩ K) :
    evCallM P o dst ⟨E2, hp, nx, n⟩ fun x st2 => ∃ E', K x ⟨E', st2.hp, st2.nx, st2.n⟩ ∧ (x = .normal → ∀ s, (A s ∨ dst = some s) → lkE st2.env s = lkE E' s) := by
  have hρ : ∀ x ∈ o.operands, evalD E x = evalD E2 x := by
    intro x hx
    cases x with
    | tmp t => exact (hA t (ho t (List.mem_filterMap.2 ⟨.tmp t, by simpa using hx, rfl⟩))).symm
    | _ => rfl
  have step : ∀ {d : D} {F F2 : Env} {hp' : Hp}, (∀ s, A s → lkE F2 s = lkE F s) → stepK ⟨E, hp, nx, n⟩ dst d F hp' K →
      stepK ⟨E2, hp, nx, n⟩ dst d F2 hp' fun x st2 => ∃ E', K x ⟨E', st2.hp, st2.nx, st2.n⟩ ∧ (x = .normal → ∀ s, (A s ∨ dst = some s) → lkE st2.env s = lkE E' s) := by
    intro d F F2 hp' hF ⟨h1, h2⟩
    refine ⟨h1, putE dst d F, h2, fun _ s hs => ?_⟩
    simp only [lkE_putE]
    split
    · rfl
    · rename_i hne
      rcases hs with hs | hs
      · exact hF s hs
      · exact (hne hs).elim
  unfold evCallM at h ⊢
  split at h
  · rename_i f args ts
    have hf := hρ f (by simp [Op.operands, Call.operands])
    have hargs : args.toList.map (evalD E) = args.toList.map (evalD E2) := map_ops fun x hx => hρ x (by simp [Op.operands, Call.operands, hx])
    dsimp only at h ⊢
    rw [← hf, ← hargs]
    split at h
    · obtain ⟨b, blk, args', r, blk', h1, h2, h3, h4, h5, h6⟩ := h
      exact ⟨b, blk, args', r, blk', h1, h2, h3, h4, h5, step hA h6⟩
    · exact h.elim
  · exact h.elim

theorem evCallX_frame {A : Nat → Prop} {E E2 : Env} {hp : Hp} {nx : Nat} {K : X → St → Prop} {o : Op} {dst : Option Tmp} (hA : ∀ s, A s → lkE E2 s = lkE E s) (ho : ∀ s ∈ slotsOf o, A s) (h : evCallX P o dst ⟨E, hp, nx, n⟩ K) :
    evCallX P o dst ⟨E2, hp, nx, n⟩ fun x st2 => ∃ E', K x ⟨E', st2.hp, st2.nx, st2.n⟩ ∧ (x = .normal → ∀ s, (A s ∨ dst = some s) → lkE st2.env s = lkE E' s) := by
  have hρ : ∀ x ∈ o.operands, evalD E x = evalD E2 x := by
    intro x hx
    cases x with
    | tmp t => exact (hA t (ho t (List.mem_filterMap.2 ⟨.tmp t, by simpa using hx, rfl⟩))).symm
    | _ => rfl
  have step : ∀ {d : D} {F F2 : Env} {hp' : Hp}, (∀ s, A s → lkE F2 s = lkE F s) → stepK ⟨E, hp, nx, n⟩ dst d F hp' K →
      stepK ⟨E2, hp, nx, n⟩ dst d F2 hp' fun x st2 => ∃ E', K x ⟨E', st2.hp, st2.nx, st2.n⟩ ∧ (x = .normal → ∀ s, (A s ∨ dst = some s) → lkE st2.env s = lkE E' s) := by
    intro d F F2 hp' hF ⟨h1, h2⟩
    refine ⟨h1, putE dst d F, h2, fun _ s hs => ?_⟩
    simp only [lkE_putE]
    split
    · rfl
    · rename_i hne
      rcases hs with hs | hs
      · exact hF s hs
      · exact (hne hs).elim
  unfold evCallX at h ⊢
  split at h
  · rename_i f args ts
    have hf := hρ f (by simp [Op.operands, Call.operands])
    have hargs : args.toList.map (evalD E) = args.toList.map (evalD E2) := map_ops fun x hx => hρ x (by simp [Op.operands, Call.operands, hx])
    dsimp only at h ⊢
    rw [← hf, ← hargs]
    split at h
    · obtain ⟨b, blk, args', r, blk', h1, h2, h3, h4, h5, h6⟩ := h
      exact ⟨b, blk, args', r, blk', h1, h2, h3, h4, h5, step hA h6⟩
    · exact h.elim
  · exact h.elim

theorem evCopy_frame {A : Nat → Prop} {E E2 : Env} {hp : Hp} {nx : Nat} {K : X → St → Prop} {o : Op} {dst : Option Tmp} (hA : ∀ s, A s → lkE E2 s = lkE E s) (ho : ∀ s ∈ slotsOf o, A s) (h : evCopy P o dst ⟨E, hp, nx, n⟩ K) :
    evCopy P o dst ⟨E2, hp, nx, n⟩ fun x st2 => ∃ E', K x ⟨E', st2.hp, st2.nx, st2.n⟩ ∧ (x = .normal → ∀ s, (A s ∨ dst = some s) → lkE st2.env s = lkE E' s) := by
  have hρ : ∀ x ∈ o.operands, evalD E x = evalD E2 x := by
    intro x hx
    cases x with
    | tmp t => exact (hA t (ho t (List.mem_filterMap.2 ⟨.tmp t, by simpa using hx, rfl⟩))).symm
    | _ => rfl
  have step : ∀ {d : D} {F F2 : Env} {hp' : Hp}, (∀ s, A s → lkE F2 s = lkE F s) → stepK ⟨E, hp, nx, n⟩ dst d F hp' K →
      stepK ⟨E2, hp, nx, n⟩ dst d F2 hp' fun x st2 => ∃ E', K x ⟨E', st2.hp, st2.nx, st2.n⟩ ∧ (x = .normal → ∀ s, (A s ∨ dst = some s) → lkE st2.env s = lkE E' s) := by
    intro d F F2 hp' hF ⟨h1, h2⟩
    refine ⟨h1, putE dst d F, h2, fun _ s hs => ?_⟩
    simp only [lkE_putE]
    split
    · rfl
    · rename_i hne
      rcases hs with hs | hs
      · exact hF s hs
      · exact (hne hs).elim
  unfold evCopy at h ⊢
  split at h
  · rename_i args ts
    obtain ⟨x, y, t, e, b, off, len, m, blk, new, fl, rows, rfl, rfl, h3, h4, h5, h6, h7, h8, h9, h10, h11, h12, h13, h14, h15, h16, h17⟩ := h
    have hx := hρ x (by simp [Op.operands, Call.operands])
    have hy := hρ y (by simp [Op.operands, Call.operands])
    dsimp only at h5 h11 h16 ⊢
    rw [hx] at h5
    rw [hy] at h11 h16
    exact ⟨x, y, t, e, b, off, len, m, blk, new, fl, rows, rfl, rfl, h3, h4, h5, h6, h7, h8, h9, h10, h11, h12, h13, h14, h15, h16, step hA h17⟩
  · exact h.elim

/-- Behind the first operation in line. -/
def LazyM (P : Program) (w0 : World) (S : Frm) (all : List Oper) (m : Nat) (K : X → St → Prop) (fuel : Nat) : Prop := ∀ (k : Nat) (rest : List Oper) (zs : List (List Nat)) (z : List Nat) (listed : Array Bool) (st : St) (id idc : Nat) (E2 : Env) (a : Act) (w : World),
    all.drop k = rest → m ≤ k → k ≤ all.length → listed.size = all.length → chkLineL all m (masks all []) k rest zs = true → (∀ i, m ≤ i → i < k → listed.getD i false = true) → (∀ i, k ≤ i → i < all.length → listed.getD i false = false) →
    (∀ i, i < m → listed.getD i false = false → i ∈ z) → (∀ j ∈ z, ∃ o, all[j]? = some o ∧ o.guard = none) → Closed all (fun i => listed.getD i false) → cnt all.length (fun i => listed.getD i false) ≤ fuel →
    againAll P all st z → evLineM P all m rest zs id st K → InvI w0 S idc ⟨E2, st.hp, st.nx, st.n⟩ a w → idc + 32 * cnt m (fun i => listed.getD i false) ≤ id →
    (∀ s, (∀ j, j < m → listed.getD j false = false → dstAt all j ≠ some s) → lkE E2 s = lkE st.env s) → wpAny P .any all.toArray (Post w0 S K) fuel listed a w

theorem lazy_nextM (hNA : S.free ∨ ∀ o ∈ all, noApp o.op = true) (hback : chkBack all 0 = true) (hm : m ≤ all.length) {K : X → St → Prop} {fuel : Nat} (ih : LazyM P w0 S all m K fuel) (k : Nat) (rest : List Oper) (zs : List (List Nat)) (listed : Array Bool) (st : St) (id idc : Nat) (E2 : Env) (a : Act) (w : World)
    (hd : all.drop k = rest) (hmk : m ≤ k) (hs : listed.size = all.length) (hchk : chkLineL all m (masks all []) k rest zs = true) (h1 : ∀ i, m ≤ i → i < k → listed.getD i false = true) (h2 : ∀ i, k ≤ i → i < all.length → listed.getD i false = false)
    (hcl : Closed all (fun i => listed.getD i false)) (h : evLineM P all m rest zs id st K) (hi : InvI w0 S idc ⟨E2, st.hp, st.nx, st.n⟩ a w) (hidc : idc ≤ id)
    (hE : ∀ s, (∀ j, j < m → listed.getD j false = false → dstAt all j ≠ some s) → lkE E2 s = lkE st.env s) (i : Nat) (him : ¬ i < m) (h3 : i < all.length) (h4 : listed.getD i false = false) (o : Oper) (ho : all[i]? = some o)
    (h5 : ∀ e ∈ o.after, Region.binds .any e = true → listed.getD e.on false = true) (hclosed : Closed all (fun j => (listed.setIfInBounds i true).getD j false)) (hcnt' : cnt all.length (fun j => (listed.setIfInBounds i true).getD j false) ≤ fuel) :
    wpOp P all.toArray (Post w0 S K) i (fun a w => wpAny P .any all.toArray (Post w0 S K) fuel (listed.setIfInBounds i true) a w) a w := by
  cases rest with
  | nil =>
    have := congrArg List.length hd
    simp at this
    have := h1 i (by omega) (by omega)
    rw [h4] at this
    cases this
  | cons ok rest =>
    cases zs with
    | nil => exact h.elim
    | cons zk zs =>
      have hklt : k < all.length := by
        have := congrArg List.length hd
        simp at this
        omega
      rw [List.drop_eq_getElem_cons hklt] at hd
      injection hd with hd1 hd2
      have hok : all[k]? = some ok := by rw [List.getElem?_eq_getElem hklt, hd1]
      simp only [chkLineL, Bool.and_eq_true, List.all_eq_true] at hchk
      obtain ⟨⟨⟨c1, c2⟩, c3⟩, c4⟩ := hchk
      have hik : i = k := by
        rcases Nat.lt_trichotomy i k with hlt | hlt | hlt
        · have := h1 i (by omega) hlt; rw [h4] at this; cases this
        · exact hlt
        · exfalso
          have bound : ∀ (rest : List Oper) (zs : List (List Nat)) (k0 : Nat), all.drop k0 = rest → chkLineL all m (masks all []) k0 rest zs = true → k0 ≤ i → ∀ j, m ≤ j → j < i → TB all j i := by
            intro rest
            induction rest with
            | nil => intro zs k0 hd _ hk0 j _ _; have := congrArg List.length hd; simp at this; omega
            | cons o1 rest ihr =>
              intro zs k0 hd hc hk0 j hj hji
              cases zs with
              | nil => simp [chkLineL] at hc
              | cons z1 zs =>
                simp only [chkLineL, Bool.and_eq_true, List.all_eq_true] at hc
                obtain ⟨⟨⟨e1, _⟩, e3⟩, e4⟩ := hc
                have hlt0 : k0 < all.length := by
                  have := congrArg List.length hd
                  simp at this
                  omega
                rw [List.drop_eq_getElem_cons hlt0] at hd
                injection hd with _ hd2
                by_cases hki : k0 = i
                · subst hki
                  rcases lazy_bound (masks_tb all) e1 hji with h | h
                  · exact h
                  · have := (chkLazy_spec (e3 j h)).1; omega
                · exact ihr zs (k0 + 1) hd2 e4 (by omega) j hj hji
          have htb := bound rest zs (k + 1) hd2 c4 (by omega) k hmk hlt
          have := tb_ready hcl ho h5 htb
          rw [h2 k (Nat.le_refl _) hklt] at this
          cases this
      subst hik
      rw [hok] at ho
      injection ho with ho; subst ho
      have hpend : ∀ j, j < m → listed.getD j false = false → j ∈ zk := fun j hj hlj => by
        rcases lazy_bound (masks_tb all) c1 (by omega : j < i) with h | h
        · have := tb_ready hcl hok h5 h; rw [hlj] at this; cases this
        · exact h
      let A : Nat → Prop := fun s => ∀ j, j < m → listed.getD j false = false → dstAt all j ≠ some s
      have hops : ∀ s ∈ slotsOf ok.op, A s := fun s hsl j hj hlj hjs => by
        obtain ⟨_, oj, hoj, _, h7, _⟩ := chkLazy_spec (c3 j (hpend j hj hlj))
        exact (h7 s (by simpa [dstAt, hoj] using hjs)).1 hsl
      simp only [evLineM] at h
      have key : ∀ (st2 : St) (a' : Act) (w' : World), (∃ E', onlyN (fun st' => againAll P all st' zk ∧ evLineM P all m rest zs (id + 32 + 32 * m) st' K) .normal ⟨E', st2.hp, st2.nx, st2.n⟩ ∧ (X.normal = .normal → ∀ s, (A s ∨ ok.dst = some s) → lkE st2.env s = lkE E' s)) → InvI w0 S (id + 32) st2 a' w' →
          wpAny P .any all.toArray (Post w0 S K) fuel (listed.setIfInBounds i true) a' w' := fun st2 a' w' hK hi' => by
        obtain ⟨E', ⟨k1, k2⟩, k5⟩ := hK
        have hst2 : ∀ s, (∀ j, j < m → (listed.setIfInBounds i true).getD j false = false → dstAt all j ≠ some s) → lkE st2.env s = lkE E' s := fun s hs => by
          refine k5 rfl s (.inl fun j hj hlj hjs => hs j hj ?_ hjs)
          rw [set_getD (by omega), if_neg (by omega)]; exact hlj
        have hcm := cnt_le m (fun j => (listed.setIfInBounds i true).getD j false)
        refine ih (i + 1) rest zs zk _ ⟨E', st2.hp, st2.nx, st2.n⟩ (id + 32 + 32 * m) (id + 32) st2.env a' w' hd2 (by omega) (by omega) (by simpa using hs) c4 (fun j hj hjk => ?_) (fun j hj hjl => ?_) (fun j hj hlj => ?_) (fun j hj => ?_) hclosed hcnt' k1 k2 hi' (by omega) hst2
        · rw [set_getD (by omega)]; split; rfl; exact h1 j hj (by omega)
        · rw [set_getD (by omega), if_neg (by omega)]; exact h2 j (by omega) hjl
        · rw [set_getD (by omega), if_neg (by omega)] at hlj
          exact hpend j hj hlj
        · obtain ⟨_, oj, hoj, hg, _⟩ := chkLazy_spec (c3 j hj)
          exact ⟨oj, hoj, hg⟩
      unfold wpOp
      simp only [List.getElem?_toArray, hok]
      have hg : ok.guard = none := by simpa using c2
      rw [if_pos (by simp [Region.wanted, hg])]
      rcases h with h | h | h | h
      · have hrun := evOp_frame (A := A) (E := st.env) (E2 := E2) (hp := st.hp) (nx := st.nx) (n := st.n) (fun s hs => hE s hs) hops h
        refine .inl (evOp_ok (hNA.imp (fun h => h) fun h => h ok (List.mem_of_getElem? hok)) (hi.up (by omega : idc ≤ id)) hrun key fun d chain w' hK _ => ?_)
        obtain ⟨E', hx, _⟩ := hK
        exact hx.elim
      · have hrun := evCallM_frame (A := A) (E := st.env) (E2 := E2) (hp := st.hp) (nx := st.nx) (n := st.n) (fun s hs => hE s hs) hops h
        exact .inl (evCallM_ok (hi.up (by omega : idc ≤ id)) hrun key)
      · have hrun := evCallX_frame (A := A) (E := st.env) (E2 := E2) (hp := st.hp) (nx := st.nx) (n := st.n) (fun s hs => hE s hs) hops h
        exact .inl (evCallX_ok (hi.up (by omega : idc ≤ id)) hrun key)
      · have hrun := evCopy_frame (A := A) (E := st.env) (E2 := E2) (hp := st.hp) (nx := st.nx) (n := st.n) (fun s hs => hE s hs) hops h
        exact .inl (evCopy_ok (hi.up (by omega : idc ≤ id)) hrun key)

theorem lazy_okM (hNA : S.free ∨ ∀ o ∈ all, noApp o.op = true) (hback : chkBack all 0 = true) (hA' : ∀ i, i < m → ∃ o, all[i]? = some o ∧ ChkA all m i o) (hm : m ≤ all.length) {K : X → St → Prop} : ∀ (fuel : Nat), LazyM P w0 S all m K fuel := by
  intro fuel
  have atEnd : ∀ (k : Nat) (rest : List Oper) (zs : List (List Nat)) (listed : Array Bool) (st : St) (id idc : Nat) (E2 : Env) (a : Act) (w : World), all.drop k = rest → m ≤ k → k ≤ all.length → (∀ i, k ≤ i → i < all.length → listed.getD i false = false) →
      (∀ i, i < all.length → listed.getD i false = true) → evLineM P all m rest zs id st K → InvI w0 S idc ⟨E2, st.hp, st.nx, st.n⟩ a w → idc + 32 * cnt m (fun i => listed.getD i false) ≤ id →
      (∀ s, (∀ j, j < m → listed.getD j false = false → dstAt all j ≠ some s) → lkE E2 s = lkE st.env s) → Post w0 S K .normal a w := by
    intro k rest zs listed st id idc E2 a w hd hmk hk h2 hall h hi hidc hE
    have hkl : k = all.length := by
      rcases Nat.lt_or_ge k all.length with hlt | hge
      · have := h2 k (Nat.le_refl _) hlt; rw [hall k hlt] at this; cases this
      · omega
    have hr : rest = [] := by rw [← hd, hkl]; simp
    subst hr
    cases zs with
    | nil =>
      refine ⟨{ st with nx := id }, h, InvI.look (InvI.up hi (show idc ≤ id by omega)) (fun s => ?_) rfl rfl⟩
      exact (hE s fun j hj hlj => by rw [hall j (by omega)] at hlj; cases hlj).symm
    | cons _ _ => exact h.elim
  induction fuel with
  | zero =>
    intro k rest zs z listed st id idc E2 a w hd hmk hk hs hchk h1 h2 hU hz hcl hcnt hag h hi hidc hE
    have hall : ∀ i, i < all.length → listed.getD i false = true := fun i hi => cnt_zero (n := all.length) (L := fun i => listed.getD i false) (by omega) i hi
    refine ⟨List.eq_nil_iff_forall_not_mem.2 fun i hi => ?_, atEnd k rest zs listed st id idc E2 a w hd hmk hk h2 hall h hi hidc hE⟩
    obtain ⟨h3, h4, _⟩ := mem_ready.1 hi
    rw [getD_tf (by omega), hall i h3] at h4
    cases h4
  | succ fuel ih =>
    intro k rest zs z listed st id idc E2 a w hd hmk hk hs hchk h1 h2 hU hz hcl hcnt hag h hi hidc hE
    refine ⟨fun hr => atEnd k rest zs listed st id idc E2 a w hd hmk hk h2 (ready_nil hs hback hr) h hi hidc hE, fun i hir => ?_⟩
    obtain ⟨h3, h4, o, ho, h5⟩ := mem_ready.1 hir
    rw [getD_tf (by omega)] at h4
    have hclosed : Closed all (fun j => (listed.setIfInBounds i true).getD j false) := by
      intro j oj e hj hoj he hbe
      simp only [set_getD (listed := listed) (i := i) (by omega : i < listed.size)] at hj ⊢
      split
      · rfl
      · split at hj
        · rename_i hji
          subst hji
          rw [ho] at hoj
          injection hoj with hoj; subst hoj
          exact h5 e he hbe
        · exact hcl j oj e hj hoj he hbe
    have hcnt' : cnt all.length (fun j => (listed.setIfInBounds i true).getD j false) ≤ fuel := by
      have := cnt_set (n := all.length) (L := fun j => listed.getD j false) (L' := fun j => (listed.setIfInBounds i true).getD j false) h3 h4 (by simp only [set_getD (listed := listed) (i := i) (by omega : i < listed.size), if_pos]) (fun j hj => by simp only [set_getD (listed := listed) (i := i) (by omega : i < listed.size), if_neg hj])
      omega
    have uniq : ∀ j k s, j < m → k < m → k ≠ j → dstAt all j = some s → dstAt all k ≠ some s := by
      intro j k s hj hk hkj hjs hks
      obtain ⟨oj, hoj, hcj⟩ := hA' j hj
      exact hcj.dst k s hk hkj hks (by simpa [dstAt, hoj] using hjs)
    by_cases him : i < m
    · -- one that was left behind
      have hiz := hU i him h4
      have hagi := againAll_mem hag i hiz
      obtain ⟨o', ho', hg⟩ := hz i hiz
      rw [ho] at ho'; injection ho' with ho'; subst ho'
      unfold again at hagi
      rw [ho] at hagi
      simp only at hagi
      obtain ⟨o', ho', hca⟩ := hA' i him
      rw [ho] at ho'; injection ho' with ho'; subst ho'
      have hod : dstAt all i = o.dst := by simp [dstAt, ho]
      let A : Nat → Prop := fun s => ∀ j, j < m → listed.getD j false = false → dstAt all j ≠ some s
      have hops : ∀ s ∈ slotsOf o.op, A s := fun s hsl j hj hlj hjs => by
        obtain ⟨e, he, hbe, hej⟩ := binding_spec (hca.slot j s hj hjs hsl)
        have := h5 e he hbe
        rw [hej, hlj] at this
        cases this
      have hrun := evOp_frame (A := A) (E := st.env) (E2 := E2) (hp := st.hp) (nx := st.nx) (n := st.n) (fun s hs => hE s hs) hops (hagi idc)
      unfold wpOp
      simp only [List.getElem?_toArray, ho]
      rw [if_pos (by simp [Region.wanted, hg])]
      refine .inl (evOp_ok (hNA.imp (fun h => h) fun h => h o (List.mem_of_getElem? ho)) hi hrun (fun st2 a' w' hK hi' => ?_) fun d chain w' hK _ => ?_)
      · obtain ⟨E', ⟨_, k2, k3, k4⟩, k5⟩ := hK
        have hst2 : ∀ s, (∀ j, j < m → (listed.setIfInBounds i true).getD j false = false → dstAt all j ≠ some s) → lkE st2.env s = lkE st.env s := fun s hs => by
          have hA : A s ∨ o.dst = some s := by
            by_cases hds : o.dst = some s
            · exact .inr hds
            · left
              intro j hj hlj hjs
              by_cases hji : j = i
              · subst hji; exact hds (hod ▸ hjs)
              · exact hs j hj (by rw [set_getD (by omega), if_neg hji]; exact hlj) hjs
          rw [k5 rfl s hA]
          exact k4 s
        have hc2 : cnt m (fun j => (listed.setIfInBounds i true).getD j false) + 1 = cnt m (fun j => listed.getD j false) := cnt_set (n := m) him h4 (by simp only [set_getD (listed := listed) (i := i) (by omega : i < listed.size), if_pos]) (fun j hj => by simp only [set_getD (listed := listed) (i := i) (by omega : i < listed.size), if_neg hj])
        refine ih k rest zs z _ st id (idc + 32) st2.env a' w' hd hmk hk (by simpa using hs) hchk (fun j hj hjk => ?_) (fun j hj hjl => ?_) (fun j hj hlj => ?_) hz hclosed hcnt' hag h (InvI.look hi' (fun s => rfl) k2.symm k3.symm) (by omega) hst2
        · rw [set_getD (by omega)]; split; rfl; exact h1 j hj hjk
        · rw [set_getD (by omega), if_neg (by omega)]; exact h2 j hj hjl
        · rw [set_getD (by omega)] at hlj
          split at hlj
          · cases hlj
          · exact hU j hj hlj
      · obtain ⟨E', ⟨hx, _⟩, _⟩ := hK
        cases hx
    · exact lazy_nextM hNA hback hm ih k rest zs listed st id idc E2 a w hd hmk hs hchk h1 h2 hcl h hi (by omega) hE i him h3 h4 o ho h5 hclosed hcnt'

theorem evDrawM_ok (hNA : S.free ∨ ∀ o ∈ all, noApp o.op = true) {st : St} {K : X → St → Prop} {zs : List (List Nat)} (hc : chkDrawL all m zs = true) (hi : InvI w0 S st.nx st a w) (h : evDrawM P all m zs st K) : wpAny P .any all.toArray (Post w0 S K) all.length (Array.replicate all.length false) a w := by
  unfold chkDrawL at hc
  simp only [Bool.and_eq_true, decide_eq_true_eq, List.all_eq_true, List.mem_range] at hc
  obtain ⟨⟨⟨hm, hback⟩, hline⟩, hA⟩ := hc
  have hA' : ∀ i, i < m → ∃ o, all[i]? = some o ∧ ChkA all m i o := fun i hi => chkA_spec (hA i hi)
  obtain ⟨hdom, h⟩ := h
  simp only [List.all_eq_true, decide_eq_true_eq] at hdom
  have hkind : ∀ i o, i < m → all[i]? = some o → kindA o.op = true := fun i o hi ho => by
    obtain ⟨o', ho', hc⟩ := hA' i hi
    rw [ho] at ho'; injection ho' with ho'; subst ho'
    exact hc.kind
  obtain ⟨dv, nb, htr, hK⟩ := evOps_trace (P := P) (all := all) (env0 := st.env) (hp0 := st.hp) (id0 := st.nx) (m := m) (K := fun _ st' => evLineM P all m (all.drop m) zs st'.nx st' K) hm hkind m 0 (fun _ => .undef) (fun _ => []) st (by omega) rfl rfl rfl
    (fun j o hj => by omega) (fun j hj => by omega) (by simpa using h)
  simp only at hK
  have hrange : ∀ j b, j < m → (lkH (nb j) b).isSome → st.nx + 32 * j ≤ b ∧ b < st.nx + 32 * j + 32 := fun j b hj hb => by
    obtain ⟨o, ho, _⟩ := hA' j hj
    exact Ran_range (htr.ran j o hj ho) hb
  have hhp0 : ∀ b, (lkH st.hp b).isSome → b < st.nx := fun b hb => by
    obtain ⟨x, hx, rfl⟩ := lkH_isSome_mem hb
    exact hdom x hx
  have hlt : ∀ i b, i ≤ m → (lkH (hpAt st.hp nb i) b).isSome → b < st.nx + 32 * i := fun i b hi hb => by
    rcases lkH_hpAt hb with h | ⟨j, hj, h⟩
    · have := hhp0 b h; omega
    · have := hrange j b (by omega) h; omega
  have hsub1 : ∀ i, i < m → Sub (lkH (hpAt st.hp nb i)) (lkH (hpAt st.hp nb (i + 1))) := fun i hi b blk hb => by
    have h1 := hlt i b (by omega) (by rw [hb]; rfl)
    simp only [hpAt, lkH_append]
    cases hn : lkH (nb i) b with
    | some blk' =>
      have := hrange i b hi (by rw [hn]; rfl)
      omega
    | none => simpa using hb
  have hsub : ∀ d i, i + d = m → Sub (lkH (hpAt st.hp nb i)) (lkH (hpAt st.hp nb m)) := by
    intro d
    induction d with
    | zero => intro i hi; rw [show i = m by omega]; exact fun b blk h => h
    | succ d ih => intro i hi b blk hb; exact ih (i + 1) (by omega) b blk (hsub1 i (by omega) b blk hb)
  have hnbA : ∀ i, i < m → ∀ b blk, lkH (nb i) b = some blk → lkH (hpAt st.hp nb m) b = some blk := fun i hi b blk hb =>
    hsub (m - (i + 1)) (i + 1) (by omega) b blk (by simp only [hpAt, lkH_append, hb]; rfl)
  have hflat : ∀ i, i < m → ∀ b blk, lkH (nb i) b = some blk → blk.flat = true → flatRows blk.rows = true := fun i hi b blk hb => by
    obtain ⟨o, ho, _⟩ := hA' i hi
    rcases Ran_cases (htr.ran i o hi ho) with h | h
    · exact OpA_flat h hb
    · rw [h] at hb; cases hb
  have hran : ∀ i o, i < m → all[i]? = some o → Ran P all o (st.nx + 32 * i) (envAt all st.env dv i) (lkH (hpAt st.hp nb m)) (dv i) (nb i) := fun i o hi ho => by
    have := htr.ran i o hi ho
    unfold Ran at this ⊢
    have hmono := @OpA_mono P (evalD (envAt all st.env dv i)) (evalD (envAt all st.env dv i)) _ _ (st.nx + 32 * i) o.op (dv i) (nb i) (hsub (m - i) i (by omega)) (fun _ _ => rfl)
    split at this
    · exact hmono this
    · obtain ⟨r, h1, h2⟩ := this
      refine ⟨r, h1, ?_⟩
      split at h2
      · rename_i hr; rw [if_pos hr]; exact hmono h2
      · rename_i hr; rw [if_neg hr]; exact h2
  have hdisj : ∀ i, i < m → ∀ j, j < m → j ≠ i → ∀ b, (lkH (nb j) b).isSome → lkH (nb i) b = none := fun i hi j hj hji b hb => by
    cases hn : lkH (nb i) b with
    | none => rfl
    | some blk =>
      have h1 := hrange i b hi (by rw [hn]; rfl)
      have h2 := hrange j b hj hb
      omega
  have hbig : ∀ i, i < m → ∀ b, st.nx + 32 * m ≤ b → lkH (nb i) b = none := fun i hi b hb => by
    cases hn : lkH (nb i) b with
    | none => rfl
    | some blk => have h1 := hrange i b hi (by rw [hn]; rfl); omega
  have uniq : ∀ j k s, j < m → k < m → k ≠ j → dstAt all j = some s → dstAt all k ≠ some s := by
    intro j k s hj hk hkj hjs hks
    obtain ⟨oj, hoj, hcj⟩ := hA' j hj
    exact hcj.dst k s hk hkj hks (by simpa [dstAt, hoj] using hjs)
  have hG0 : G w0 S all m st.nx st.n dv nb st.env (lkH (hpAt st.hp nb m)) (fun _ => false) a w := by
    obtain ⟨pu, ow, m1, m2, m3, m4, m5, m6, m7⟩ := hi
    refine ⟨pu, ow, m1.addPends (fun b blk hb => hsub m 0 (by omega) b blk hb) (fun b blk hb hb0 => ?_), (fun j s _ h => Bool.noConfusion h), fun s _ => m2 s, m3, m4, fun j b hj _ hb => m5 b ?_, fun b hb => m5 b (by omega), m6, m7⟩
    · rcases lkH_hpAt (by rw [hb]; rfl : (lkH (hpAt st.hp nb m) b).isSome) with h | ⟨j, hj, h⟩
      · rw [hb0] at h; cases h
      · have h1 := hrange j b hj h
        obtain ⟨blk', hb'⟩ := Option.isSome_iff_exists.1 h
        have := hnbA j hj b blk' hb'
        rw [hb] at this
        injection this with this; subst this
        exact ⟨m5 b (by omega), hflat j hj b blk hb'⟩
    · have h1 := hrange j b hj hb; omega
  have stateOf : ∀ (listed : Array Bool) (a : Act) (w : World), G w0 S all m st.nx st.n dv nb st.env (lkH (hpAt st.hp nb m)) (fun i => listed.getD i false) a w →
      ∃ E2, InvI w0 S (st.nx + 32 * m) ⟨E2, hpAt st.hp nb m, st.nx + 32 * m, st.n⟩ a w ∧ ∀ s, (∀ j, j < m → listed.getD j false = false → dstAt all j ≠ some s) → lkE E2 s = lkE (envAt all st.env dv m) s := by
    intro listed a w ⟨pu, ow, g1, g2, g3, g4, g5, g6, g7, g8, g9⟩
    let un : List Nat := (List.range m).filterMap fun j => if listed.getD j false = false then dstAt all j else none
    have hun : ∀ s, s ∈ un ↔ ∃ j, j < m ∧ listed.getD j false = false ∧ dstAt all j = some s := by
      intro s
      simp only [un, List.mem_filterMap, List.mem_range]
      constructor
      · rintro ⟨j, hj, h⟩
        split at h
        · rename_i hl; exact ⟨j, hj, hl, h⟩
        · cases h
      · rintro ⟨j, hj, hl, h⟩
        exact ⟨j, hj, by rw [if_pos hl]; exact h⟩
    have hlk : ∀ (l : List Nat) (E : Env) (s : Nat), lkE (l.map (fun s => (s, D.undef)) ++ E) s = if s ∈ l then .undef else lkE E s := by
      intro l
      induction l with
      | nil => intro E s; simp
      | cons t l ih =>
        intro E s
        simp only [List.map_cons, List.cons_append, lkE, List.mem_cons]
        by_cases h : s = t
        · simp [h]
        · rw [if_neg h, ih]; simp [h]
    refine ⟨un.map (fun s => (s, D.undef)) ++ envAt all st.env dv m, ⟨pu, ow, g1, fun s => ?_, g4, g5, g7, g8, g9⟩, fun s hs => ?_⟩
    · simp only [hlk]
      split
      · exact .pure _ _ (.undef _)
      · rename_i hsu
        by_cases hex : ∃ j, j < m ∧ dstAt all j = some s
        · obtain ⟨j, hj, hjs⟩ := hex
          rw [envAt_dst hjs hj fun k hk hkj => uniq j k s hj hk hkj hjs]
          refine g2 j s hj ?_ hjs
          cases hl : listed.getD j false with
          | true => exact hl
          | false => exact (hsu ((hun s).2 ⟨j, hj, hl, hjs⟩)).elim
        · have hno : ∀ j, j < m → dstAt all j ≠ some s := fun j hj h => hex ⟨j, hj, h⟩
          rw [envAt_other hno]
          exact g3 s hno
    · rw [hlk, if_neg]
      intro hsu
      obtain ⟨j, hj, hl, hjs⟩ := (hun s).1 hsu
      exact hs j hj hl hjs
  have finish : ∀ (fuel : Nat) (listed : Array Bool) (a : Act) (w : World), listed.size = all.length → cnt all.length (fun i => listed.getD i false) ≤ fuel → Closed all (fun i => listed.getD i false) → (∀ i, i < m → listed.getD i false = true) →
      (∀ i, m ≤ i → i < all.length → listed.getD i false = false) → G w0 S all m st.nx st.n dv nb st.env (lkH (hpAt st.hp nb m)) (fun i => listed.getD i false) a w → wpAny P .any all.toArray (Post w0 S K) fuel listed a w := by
    intro fuel listed a w hs hcnt hcl hall hB hG
    obtain ⟨E2, hi2, hE⟩ := stateOf listed a w hG
    have hz : ∀ n, (∀ i, i < n → listed.getD i false = true) → cnt n (fun i => listed.getD i false) = 0 := by
      intro n
      induction n with
      | zero => intro _; rfl
      | succ n ih => intro h; simp only [cnt]; rw [ih fun i hi => h i (by omega), if_pos (h n (by omega))]
    exact lazy_okM hNA hback hA' hm fuel m (all.drop m) zs [] listed _ _ _ E2 a w rfl (Nat.le_refl _) hm hs hline (fun j hj hj' => by omega) hB (fun j hj hl => by rw [hall j hj] at hl; cases hl) (fun j hj => by simp at hj) hcl hcnt trivial hK hi2 (by rw [hz m hall]; exact Nat.le_refl _) hE
  suffices H : ∀ (fuel : Nat) (listed : Array Bool) (a : Act) (w : World), listed.size = all.length → cnt all.length (fun i => listed.getD i false) ≤ fuel → Closed all (fun i => listed.getD i false) →
      (∀ i, m ≤ i → i < all.length → listed.getD i false = false) → G w0 S all m st.nx st.n dv nb st.env (lkH (hpAt st.hp nb m)) (fun i => listed.getD i false) a w → wpAny P .any all.toArray (Post w0 S K) fuel listed a w by
    refine H _ _ a w (by simp) ?_ ?_ ?_ ?_
    · have : ∀ n (L : Nat → Bool), cnt n L ≤ n := by
        intro n L
        induction n with
        | zero => simp [cnt]
        | succ n ih => simp only [cnt]; split <;> omega
      exact this _ _
    · intro i o e h
      simp only [Array.getD_eq_getD_getElem?, Array.getElem?_replicate] at h
      split at h <;> cases h
    · intro i _ _
      simp only [Array.getD_eq_getD_getElem?, Array.getElem?_replicate]
      split <;> rfl
    · have : (fun i => (Array.replicate all.length false).getD i false) = fun _ => false := by
        funext i
        simp only [Array.getD_eq_getD_getElem?, Array.getElem?_replicate]
        split <;> rfl
      rw [this]
      exact hG0
  intro fuel
  induction fuel with
  | zero =>
    intro listed a w hs hcnt hcl hB hG
    exact finish 0 listed a w hs hcnt hcl (fun i hi => cnt_zero (n := all.length) (L := fun i => listed.getD i false) (by omega) i (by omega)) hB hG
  | succ fuel ih =>
    intro listed a w hs hcnt hcl hB hG
    by_cases hall : ∀ i, i < m → listed.getD i false = true
    · exact finish _ listed a w hs hcnt hcl hall hB hG
    · refine ⟨fun hr => (hall fun i hi => ready_nil hs hback hr i (by omega)).elim, fun i hi => ?_⟩
      obtain ⟨h1, h2, o, ho, h3⟩ := mem_ready.1 hi
      rw [getD_tf (by omega)] at h2
      have hclosed : Closed all (fun j => (listed.setIfInBounds i true).getD j false) := by
        intro j oj e hj hoj he hbe
        simp only [set_getD (listed := listed) (i := i) (by omega : i < listed.size)] at hj ⊢
        split
        · rfl
        · split at hj
          · rename_i hji
            subst hji
            rw [ho] at hoj
            injection hoj with hoj; subst hoj
            exact h3 e he hbe
          · exact hcl j oj e hj hoj he hbe
      have hcnt' : cnt all.length (fun j => (listed.setIfInBounds i true).getD j false) ≤ fuel := by
        have := cnt_set (n := all.length) (L := fun j => listed.getD j false) (L' := fun j => (listed.setIfInBounds i true).getD j false) h1 h2 (by simp only [set_getD (listed := listed) (i := i) (by omega : i < listed.size), if_pos]) (fun j hj => by simp only [set_getD (listed := listed) (i := i) (by omega : i < listed.size), if_neg hj])
        omega
      by_cases him : i < m
      · refine G_step (env0 := st.env) (hp := lkH (hpAt st.hp nb m)) (L := fun i => listed.getD i false) hG ho hA' him h2 (fun j hb => ?_) (fun s hno _ => (envAt_other fun j hj => hno j (by omega)).symm) (hran i o him ho) (hnbA i him) (hdisj i him) (hbig i him) (htr.dst i him) fun a' w' hG' => ?_
        · obtain ⟨e, he, hbe, rfl⟩ := binding_spec hb
          exact ⟨h3 e he hbe, by have := chkBack_spec hback ho he hbe; omega⟩
        · have hset : (fun j => (listed.setIfInBounds i true).getD j false) = fun j => if j = i then true else listed.getD j false := funext fun j => set_getD (by omega)
          refine ih _ a' w' (by simpa using hs) hcnt' hclosed ?_ ?_
          · intro j hj hj'
            rw [set_getD (by omega), if_neg (by omega)]
            exact hB j hj hj'
          · rw [hset]
            exact hG'
      · obtain ⟨E2, hi2, hE⟩ := stateOf listed a w hG
        exact lazy_nextM hNA hback hm (lazy_okM hNA hback hA' hm fuel) m (all.drop m) zs listed _ _ _ E2 a w rfl (Nat.le_refl _) hs hline (fun j hj hj' => by omega) hB hcl hK hi2 (Nat.le_refl _) hE i him h1 h2 o ho h3 hclosed hcnt'

end
end Go.Pv

/- Code. -/
namespace Go.Pv


/-- The second plain state says no more than the first. -/
def Entails (st st' : St) : Prop := ∀ (w0 : World) (S : Frm) (a : Act) (w : World), S.free → InvI w0 S st.nx st a w → InvI w0 S st'.nx st' a w

def kSeq (f : St → Prop) (K : X → St → Prop) : X → St → Prop
  | .normal, st => f st
  | x, st => K x st

def kBlock (id : Nat) (K : X → St → Prop) : X → St → Prop
  | .exit id', st => if id' = id then K .normal st else K (.exit id') st
  | x, st => K x st

/-- No append in the code. -/
def noAppC : Code → Bool
  | .region _ ops _ => ops.toList.all fun o => noApp o.op
  | .seq a b => noAppC a && noAppC b
  | .cond _ a b => noAppC a && noAppC b
  | .block _ c => noAppC c
  | .loop c => noAppC c
  | .scope c => noAppC c
  | _ => true

def evG (E : St → St → Prop) (P : Program) : Code → (X → St → Prop) → St → Prop
  | .skip, K, st => K .normal st
  | .label _, K, st => K .normal st
  | .region _ ops false, K, st => evOps P ops.toList ops.toList st.nx st K ∨ evOpsM P ops.toList ops.toList st.nx st K
  | .region _ ops true, K, st => (∃ m, chkDraw ops.toList m = true ∧ evDraw P ops.toList m st K) ∨ (∃ m zs, chkDrawL ops.toList m zs = true ∧ evDrawL P ops.toList m zs st K) ∨
      ∃ m zs, chkDrawL ops.toList m zs = true ∧ evDrawM P ops.toList m zs st K
  | .seq a b, K, st => evG E P a (kSeq (evG E P b K) K) st ∨ ∃ s1, evG E P a (kSeq (fun st' => E st' s1) K) st ∧ evG E P b K s1
  | .cond c a b, K, st => ∃ t, evalD st.env c = .bool t ∧ (t = true → evG E P a K st) ∧ (t = false → evG E P b K st)
  | .block id c, K, st => evG E P c (kBlock id K) st
  | .loop c, K, st => ∃ (I : Nat → St → Prop) (n : Nat), (∃ s, E st s ∧ I n s) ∧ ∀ n s, I n s → evG E P c (kSeq (fun st' => ∃ n' s', n' < n ∧ E st' s' ∧ I n' s') K) s
  | .exit id, K, st => K (.exit id) st
  | .ret, K, st => K .ret st
  | .scope c, K, st => evG E P c K st
  | _, _, _ => False

abbrev ev (P : Program) (c : Code) (K : X → St → Prop) (st : St) : Prop := evG Entails P c K st

section
variable {P : Program} {w w' w0 : World} {S : Frm} {a : Act}

theorem InvI.heap {id : Nat} {st : St} (hi : InvI w0 S id st a w) (hh : w'.heap = w.heap) (hb : Below w0.heap.size w0 w → Below w0.heap.size w0 w') : InvI w0 S id st a w' := by
  obtain ⟨pu, ow, m1, m2, m3, m4, m5, m6, m7⟩ := hi
  have he : Ext w pu ow w' pu ow := ⟨fun g hg => ⟨hg, by rw [hh]⟩, fun _ => .inr (.inl rfl)⟩
  exact ⟨pu, ow, ⟨fun b blk hb => (m1.blk b blk hb).mono he fun g _ => by rw [hh], m1.none, m1.injO, m1.ownO, fun g hg => by rw [hh]; exact m1.zone g hg⟩, m2.mono he, hb m3, m4, m5, m6, m7.1, m7.2.step he fun _ => .inr rfl⟩

theorem rounds_mono {c : Code} {Q : Exit → Act → World → Prop} : ∀ {n : Nat} {a : Act} {w : World}, Code.rounds P c Q n a w → Code.rounds P c Q (n + 1) a w
  | 0, _, _, h => h.elim
  | n + 1, a, w, h => wp_mono h fun e a w he => by
    cases e <;> first | exact rounds_mono he | exact he

theorem rounds_le {c : Code} {Q : Exit → Act → World → Prop} {n k : Nat} (hk : n ≤ k) {a : Act} {w : World} (h : Code.rounds P c Q n a w) : Code.rounds P c Q k a w := by
  induction hk with
  | refl => exact h
  | step _ ih => exact rounds_mono ih

theorem evG_ok {E : St → St → Prop} (hmix : P.follows .mixedOrders = true) (hE : ∀ (s s' : St) (a : Act) (w : World), E s s' → InvI w0 S s.nx s a w → InvI w0 S s'.nx s' a w) : ∀ (c : Code) (K : X → St → Prop) (st : St) (a : Act) (w : World), (S.free ∨ noAppC c = true) → InvI w0 S st.nx st a w → evG E P c K st → c.wp P (Post w0 S K) a w := by
  intro c
  induction c with
  | skip => exact fun K st a w _ hi h => wp_skip ⟨st, h, hi⟩
  | label l => exact fun K st a w _ hi h => wp_label ⟨st, h, hi⟩
  | region id ops draw =>
    intro K st a w hNA hi h
    have hNA' : S.free ∨ ∀ o ∈ ops.toList, noApp o.op = true := hNA.imp (fun h => h) fun h => List.all_eq_true.1 h
    cases draw with
    | false =>
      refine wp_region_list ?_
      have := h.elim (evOps_ok (all := ops.toList) ops.toList st.nx st a w hNA' hi) (evOpsM_ok (all := ops.toList) ops.toList st.nx st a w hNA' hi)
      simpa using this
    | true =>
      refine wp_region_any hmix ?_
      have hi' : InvI w0 S st.nx st a { w with drawn := w.drawn + 1 } := hi.heap rfl fun hb => ⟨hb.os, hb.tape, hb.output, hb.size, hb.block, hb.drawn.step rfl⟩
      rcases h with ⟨m, hc, h⟩ | ⟨m, zs, hc, h⟩ | ⟨m, zs, hc, h⟩
      · have := evDraw_ok (all := ops.toList) hNA' hc hi' h
        simpa using this
      · have := evDrawL_ok (all := ops.toList) hNA' hc hi' h
        simpa using this
      · have := evDrawM_ok (all := ops.toList) hNA' hc hi' h
        simpa using this
  | seq x y ihx ihy =>
    intro K st a w hNA hi h
    have hN1 : S.free ∨ noAppC x = true := hNA.imp (fun h => h) fun h => by simp only [noAppC, Bool.and_eq_true] at h; exact h.1
    have hN2 : S.free ∨ noAppC y = true := hNA.imp (fun h => h) fun h => by simp only [noAppC, Bool.and_eq_true] at h; exact h.2
    rcases h with h | ⟨s1, h, h1⟩
    · refine wp_seq (wp_mono (ihx _ st a w hN1 hi h) fun e a w he => ?_)
      cases e with
      | normal => obtain ⟨st', h', hi'⟩ := he; exact ihy K st' a w hN2 hi' h'
      | _ => exact he
    · refine wp_seq (wp_mono (ihx _ st a w hN1 hi h) fun e a w he => ?_)
      cases e with
      | normal => obtain ⟨st', h', hi'⟩ := he; exact ihy K s1 a w hN2 (hE _ _ _ _ h' hi') h1
      | _ => exact he
  | cond c x y ihx ihy =>
    intro K st a w hNA hi h
    have hN1 : S.free ∨ noAppC x = true := hNA.imp (fun h => h) fun h => by simp only [noAppC, Bool.and_eq_true] at h; exact h.1
    have hN2 : S.free ∨ noAppC y = true := hNA.imp (fun h => h) fun h => by simp only [noAppC, Bool.and_eq_true] at h; exact h.2
    obtain ⟨t, hc, h1, h2⟩ := h
    obtain ⟨pu, ow, he⟩ := hi.env
    have hv := he.eval c
    rw [hc] at hv
    exact wp_cond_split hv.bool_inv (fun ht => ihx K st a w hN1 hi (h1 ht)) fun ht => ihy K st a w hN2 hi (h2 ht)
  | block id c ih =>
    intro K st a w hNA hi h
    refine wp_block (wp_mono (ih _ st a w hNA hi h) fun e a w he => ?_)
    cases e with
    | exit id' =>
      obtain ⟨st', h', hi'⟩ := he
      simp only [kBlock] at h'
      simp only [Exit.inBlock]
      split at h'
      · rename_i hid; rw [if_pos hid]; exact ⟨st', h', hi'⟩
      · rename_i hid; rw [if_neg hid]; exact ⟨st', h', hi'⟩
    | _ => exact he
  | loop c ih =>
    intro K st a w hNA hi h
    obtain ⟨I, n, ⟨s, hes, hI⟩, hround⟩ := h
    refine wp_loop_rounds (n + 1) ?_
    have key : ∀ n s a w, I n s → InvI w0 S s.nx s a w → Code.rounds P c (Post w0 S K) (n + 1) a w := by
      intro n
      induction n using Nat.strongRecOn with
      | ind n ihn =>
        intro s a w hI hi
        rw [rounds_succ]
        refine wp_mono (ih _ s a w hNA hi (hround n s hI)) fun e a w he => ?_
        cases e with
        | normal =>
          obtain ⟨st', ⟨n', s', hlt, hes, hI'⟩, hi'⟩ := he
          exact rounds_le (by omega) (ihn n' hlt s' a w hI' (hE _ _ _ _ hes hi'))
        | _ => exact he
    exact key n s a w hI (hE _ _ _ _ hes hi)
  | exit id => exact fun K st a w _ hi h => wp_exit ⟨st, h, hi⟩
  | ret => exact fun K st a w _ hi h => wp_ret ⟨st, h, hi⟩
  | scope c ih =>
    intro K st a w hNA hi h
    refine wp_scope_straight (wp_mono (ih K st a w hNA hi h) fun e a w he => ?_)
    cases e with
    | goto l => exact he.elim
    | _ => exact he
  | _ => exact fun K st a w _ hi h => h.elim

theorem ev_ok (hmix : P.follows .mixedOrders = true) (c : Code) (K : X → St → Prop) (st : St) (a : Act) (w : World) (hS : S.free) (hi : InvI w0 S st.nx st a w) (h : ev P c K st) : c.wp P (Post w0 S K) a w :=
  evG_ok hmix (fun _ _ _ _ he hi => he _ _ _ _ hS hi) c K st a w (.inl hS) hi h

end
end Go.Pv

/- A plain state told anew: fewer slots, other numbers of blocks, nil slices as empty blocks. -/
namespace Go.Pv


abbrev Sg := List (Nat × Nat)

def lkS : Sg → Nat → Option Nat
  | [], _ => none
  | (a, b) :: r, x => if x = a then some b else lkS r x

def lkI : Sg → Nat → Option Nat
  | [], _ => none
  | (a, b) :: r, y => if y = b then some a else lkI r y

mutual
def ren (g : Sg) : D → D
  | .os b off len => match lkS g b with
    | some b' => .os b' off len
    | none => .undef
  | .op b row off => match lkS g b with
    | some b' => .op b' row off
    | none => .undef
  | .om b => match lkS g b with
    | some b' => .om b'
    | none => .undef
  | .agg cs => .agg (renL g cs)
  | .tup cs => .tup (renL g cs)
  | .clo fn xs ys => .clo fn (renL g xs) (renL g ys)
  | .iface t d => .iface t (ren g d)
  | d => d
def renL (g : Sg) : List D → List D
  | [] => []
  | d :: ds => ren g d :: renL g ds
end

def renB (g : Sg) (blk : Blk) : Blk := if blk.flat then blk else ⟨blk.k, false, blk.rows.map (renL g)⟩

def morphH (g : Sg) (hp : Hp) : Sg → Hp
  | [] => []
  | (b, b') :: r => match lkH hp b with
    | some blk => (b', renB g blk) :: morphH g hp r
    | none => morphH g hp r

def morphE (g : Sg) (env : Env) (ks : List Nat) : Env := ks.map fun s => (s, ren g (lkE env s))
def nilE (ns : Sg) : Env := ns.map fun (s, b) => (s, .os b 0 0)
def nilH (k : Nat) (ns : Sg) : Hp := ns.map fun (_, b) => (b, ⟨k, true, []⟩)

/-- Slots 'ks' are kept, blocks renamed by 'g'; the nil slices in the slots of 'ns' become empty blocks. -/
def morph (g ns : Sg) (k : Nat) (ks : List Nat) (nx : Nat) (st : St) : St :=
  ⟨nilE ns ++ morphE g st.env ks, nilH k ns ++ morphH g st.hp g, nx, st.n⟩

def okSg (g ns : Sg) (nx : Nat) : Bool :=
  decide (g.map (·.1)).Nodup && decide ((g ++ ns).map (·.2)).Nodup && (g ++ ns).all fun x => decide (x.2 < nx)

section
variable {P : Program} {w w' w0 : World} {pu : Nat → Prop} {ow ow' : Nat → Ow} {base : Nat} {g : Sg}

theorem lkS_mem : ∀ {g : Sg} {a b : Nat}, lkS g a = some b → (a, b) ∈ g
  | (x, y) :: r, a, b, h => by
    simp only [lkS] at h
    split at h
    · rename_i he; injection h with h; subst h he; simp
    · simp [lkS_mem h]

theorem lkI_mem : ∀ {g : Sg} {a b : Nat}, lkI g b = some a → (a, b) ∈ g
  | (x, y) :: r, a, b, h => by
    simp only [lkI] at h
    split at h
    · rename_i he; injection h with h; subst h he; simp
    · simp [lkI_mem h]

theorem lkI_of_mem : ∀ {g : Sg} {a b : Nat}, (g.map (·.2)).Nodup → (a, b) ∈ g → lkI g b = some a
  | (x, y) :: r, a, b, hn, h => by
    simp only [List.map_cons, List.nodup_cons] at hn
    simp only [lkI]
    rcases List.mem_cons.1 h with h' | h'
    · injection h' with h1 h2; subst h1 h2; simp
    · rw [if_neg]
      · exact lkI_of_mem hn.2 h'
      · rintro rfl
        exact hn.1 (List.mem_map.2 ⟨(a, b), h', rfl⟩)

theorem fst_inj : ∀ {g : Sg} {a b c : Nat}, (g.map (·.1)).Nodup → (a, b) ∈ g → (a, c) ∈ g → b = c
  | (x, y) :: r, a, b, c, hn, h1, h2 => by
    simp only [List.map_cons, List.nodup_cons] at hn
    rcases List.mem_cons.1 h1 with g1 | g1 <;> rcases List.mem_cons.1 h2 with g2 | g2
    · injection g1 with e1 e2; injection g2 with e3 e4; rw [e2, e4]
    · injection g1 with e1 e2; subst e1; exact (hn.1 (List.mem_map.2 ⟨(a, c), g2, rfl⟩)).elim
    · injection g2 with e1 e2; subst e1; exact (hn.1 (List.mem_map.2 ⟨(a, b), g1, rfl⟩)).elim
    · exact fst_inj hn.2 g1 g2

theorem renL_get : ∀ {ds : List D} {i : Nat} {d : D}, (renL g ds)[i]? = some d → ∃ e, ds[i]? = some e ∧ d = ren g e
  | [], i, d, h => by simp [renL] at h
  | e :: ds, 0, d, h => by simp [renL] at h; exact ⟨e, rfl, h.symm⟩
  | e :: ds, i + 1, d, h => by
    simp only [renL, List.getElem?_cons_succ] at h ⊢
    exact renL_get h

theorem renL_length : ∀ (ds : List D), (renL g ds).length = ds.length
  | [] => rfl
  | _ :: ds => by simp [renL, renL_length ds]

theorem RepP.ren {v : Value} {d : D} (h : RepP w pu v d) : RepP w pu v (ren g d) := by
  induction h with
  | undef v => exact .undef v
  | skip => exact .skip
  | int k n => exact .int k n
  | bool b => exact .bool b
  | str s => exact .str s
  | float k n => exact .float k n
  | agg vs cs hl _ ih =>
    refine .agg vs _ (by rw [renL_length]; exact hl) fun i v d h1 h2 => ?_
    obtain ⟨e, he, rfl⟩ := renL_get h2
    exact ih i v e h1 he
  | tup vs cs hl _ ih =>
    refine .tup vs _ (by rw [renL_length]; exact hl) fun i v d h1 h2 => ?_
    obtain ⟨e, he, rfl⟩ := renL_get h2
    exact ih i v e h1 he
  | sl a cap rows k f hc hk hm h _ => exact .sl a cap rows k f hc hk hm h
  | ptr b off cs f hb hm h _ => exact .ptr b off cs f hb hm h
  | nilptr => exact .nilptr
  | clo fn xs ys cs ds hx _ hy _ ih ih' =>
    refine .clo fn xs ys _ _ (by rw [renL_length]; exact hx) (fun i v d h1 h2 => ?_) (by rw [renL_length]; exact hy) fun i v d h1 h2 => ?_
    · obtain ⟨e, he, rfl⟩ := renL_get h2
      exact ih i v e h1 he
    · obtain ⟨e, he, rfl⟩ := renL_get h2
      exact ih' i v e h1 he
  | nilfunc => exact .nilfunc
  | iface t v d _ ih => exact .iface t v _ ih
  | nilif => exact .nilif

theorem Rep.ren (hg : ∀ b b', lkS g b = some b' → ow' b' = ow b) {v : Value} {d : D} (h : Rep w pu ow v d) : Rep w pu ow' v (ren g d) := by
  induction h with
  | pure v d h => exact .pure _ _ h.ren
  | agg vs cs hl _ ih =>
    refine .agg vs _ (by rw [renL_length]; exact hl) fun i v d h1 h2 => ?_
    obtain ⟨e, he, rfl⟩ := renL_get h2
    exact ih i v e h1 he
  | tup vs cs hl _ ih =>
    refine .tup vs _ (by rw [renL_length]; exact hl) fun i v d h1 h2 => ?_
    obtain ⟨e, he, rfl⟩ := renL_get h2
    exact ih i v e h1 he
  | clo fn xs ys cs ds hx _ hy _ ih ih' =>
    refine .clo fn xs ys _ _ (by rw [renL_length]; exact hx) (fun i v d h1 h2 => ?_) (by rw [renL_length]; exact hy) fun i v d h1 h2 => ?_
    · obtain ⟨e, he, rfl⟩ := renL_get h2
      exact ih i v e h1 he
    · obtain ⟨e, he, rfl⟩ := renL_get h2
      exact ih' i v e h1 he
  | iface t v d _ ih => exact .iface t v _ ih
  | nilsl => exact .nilsl
  | osd a n c b off len hb =>
    simp only [Go.Pv.ren]
    split
    · rename_i b' h'; exact .osd a n c b' off len ((hg b b' h').trans hb)
    · exact .pure _ _ (.undef _)
  | ose a b off hb =>
    simp only [Go.Pv.ren]
    split
    · rename_i b' h'; exact .ose a b' off ((hg b b' h').trans hb)
    · exact .pure _ _ (.undef _)
  | osa a cap b off len g o k sz hb hl hm =>
    simp only [Go.Pv.ren]
    split
    · rename_i b' h'; exact .osa a cap b' off len g o k sz ((hg b b' h').trans hb) hl hm
    · exact .pure _ _ (.undef _)
  | opd a b row off hb =>
    simp only [Go.Pv.ren]
    split
    · rename_i b' h'; exact .opd a b' row off ((hg b b' h').trans hb)
    · exact .pure _ _ (.undef _)
  | opa b row off g o k sz hb =>
    simp only [Go.Pv.ren]
    split
    · rename_i b' h'; exact .opa b' row off g o k sz ((hg b b' h').trans hb)
    · exact .pure _ _ (.undef _)
  | omd r b hb =>
    simp only [Go.Pv.ren]
    split
    · rename_i b' h'; exact .omd r b' ((hg b b' h').trans hb)
    · exact .pure _ _ (.undef _)
  | oma b g hb =>
    simp only [Go.Pv.ren]
    split
    · rename_i b' h'; exact .oma b' g ((hg b b' h').trans hb)
    · exact .pure _ _ (.undef _)

theorem cellAt_ren {rows : List (List D)} {i j : Nat} {d : D} (h : cellAt (rows.map (renL g)) i j = some d) : ∃ e, cellAt rows i j = some e ∧ d = Go.Pv.ren g e := by
  unfold cellAt at h ⊢
  rw [List.getElem?_map] at h
  cases hr : rows[i]? with
  | none => rw [hr] at h; simp at h
  | some r =>
    rw [hr] at h
    simp only [Option.map_some, Option.bind_some] at h
    obtain ⟨e, he, rfl⟩ := renL_get h
    exact ⟨e, by simpa using he, rfl⟩

theorem BlkOK.ren {o : Ow} {blk : Blk} (hg : ∀ b b', lkS g b = some b' → ow' b' = ow b) (h : BlkOK w pu ow o blk) : BlkOK w pu ow' o (renB g blk) := by
  obtain ⟨hf, h⟩ := h
  unfold renB
  split
  · rename_i hfl
    refine ⟨hf, ?_⟩
    cases o with
    | dead => exact h
    | pending => exact h
    | empty => exact h
    | lies y a k sz =>
      obtain ⟨h1, h2, h3, h4, c, t, h5, h6, h7⟩ := h
      refine ⟨h1, h2, h3, h4, c, t, h5, h6, fun i j d hd => ?_⟩
      obtain ⟨v, hv, hr⟩ := h7 i j d hd
      exact ⟨v, hv, .pure _ _ (lite_pure hr (flat_cell (hf hfl) hd))⟩
    | mp y => exact h
  · refine ⟨fun h => Bool.noConfusion h, ?_⟩
    cases o with
    | dead => exact h
    | pending => exact h
    | empty => simpa using h
    | lies y a k sz =>
      obtain ⟨h1, h2, h3, h4, c, t, h5, h6, h7⟩ := h
      refine ⟨h1, h2, fun r hr => ?_, by simpa using h4, c, t, h5, h6, fun i j d hd => ?_⟩
      · obtain ⟨r', hr', rfl⟩ := List.mem_map.1 hr
        rw [renL_length]; exact h3 r' hr'
      · obtain ⟨e, he, rfl⟩ := cellAt_ren hd
        obtain ⟨v, hv, hr⟩ := h7 i j e he
        exact ⟨v, hv, hr.ren hg⟩
    | mp y => rename_i hfl; exact (hfl h.1.1).elim

theorem morphH_get {hp : Hp} : ∀ {r : Sg} {b' : Nat} {blk' : Blk}, lkH (morphH g hp r) b' = some blk' → ∃ b blk, (b, b') ∈ r ∧ lkH hp b = some blk ∧ blk' = renB g blk
  | (x, y) :: r, b', blk', h => by
    simp only [morphH] at h
    split at h
    · rename_i blk hb
      simp only [lkH] at h
      split at h
      · rename_i he
        injection h with h
        exact ⟨x, blk, by simp [he], hb, h.symm⟩
      · obtain ⟨b, blk2, h1, h2, h3⟩ := morphH_get h
        exact ⟨b, blk2, by simp [h1], h2, h3⟩
    · obtain ⟨b, blk2, h1, h2, h3⟩ := morphH_get h
      exact ⟨b, blk2, by simp [h1], h2, h3⟩

theorem morphH_none {hp : Hp} {a b' : Nat} (h : lkH hp a ≠ none) : ∀ {r : Sg}, (a, b') ∈ r → lkH (morphH g hp r) b' ≠ none
  | (x, y) :: r, hm => by
    simp only [morphH]
    rcases List.mem_cons.1 hm with he | hm
    · injection he with h1 h2
      subst h1 h2
      split
      · simp [lkH]
      · rename_i hn; exact (h hn).elim
    · split
      · simp only [lkH]
        split
        · simp
        · exact morphH_none h hm
      · exact morphH_none h hm

theorem lkE_append (e1 e2 : Env) (s : Nat) : lkE (e1 ++ e2) s = if s ∈ e1.map (·.1) then lkE e1 s else lkE e2 s := by
  induction e1 with
  | nil => simp
  | cons x e1 ih =>
    obtain ⟨k, d⟩ := x
    simp only [List.cons_append, lkE, List.map_cons, List.mem_cons, ih]
    by_cases h : s = k
    · simp [h]
    · simp only [h, false_or, if_false]

theorem lkE_nilE : ∀ {ns : Sg} {s : Nat}, s ∈ (nilE ns).map (·.1) → ∃ b, (s, b) ∈ ns ∧ lkE (nilE ns) s = .os b 0 0
  | (k, b) :: ns, s, h => by
    simp only [nilE, List.map_cons, List.mem_cons, lkE] at h ⊢
    by_cases he : s = k
    · exact ⟨b, .inl (by rw [he]), by rw [if_pos he]⟩
    · rw [if_neg he]
      obtain ⟨c, h1, h2⟩ := lkE_nilE (ns := ns) (s := s) (by simpa [nilE, he] using h)
      exact ⟨c, .inr h1, h2⟩

theorem lkH_nilH {k : Nat} : ∀ {ns : Sg} {b : Nat} {blk : Blk}, lkH (nilH k ns) b = some blk → blk = ⟨k, true, []⟩ ∧ ∃ s, (s, b) ∈ ns
  | (s, c) :: ns, b, blk, h => by
    simp only [nilH, List.map_cons, lkH] at h
    split at h
    · rename_i he; injection h with h; exact ⟨h.symm, s, by simp [he]⟩
    · obtain ⟨h1, s', h2⟩ := lkH_nilH (ns := ns) h
      exact ⟨h1, s', by simp [h2]⟩

theorem lkH_nilH_none {k : Nat} : ∀ {ns : Sg} {b s : Nat}, (s, b) ∈ ns → lkH (nilH k ns) b ≠ none
  | (s', c) :: ns, b, s, h => by
    simp only [nilH, List.map_cons, lkH]
    split
    · simp
    · rename_i hne
      rcases List.mem_cons.1 h with h | h
      · injection h with h1 h2; exact (hne h2).elim
      · exact lkH_nilH_none h

theorem entails_morph {ns : Sg} {k nx : Nat} {ks : List Nat} {st : St} (ho : okSg g ns nx = true) (hn : ∀ x ∈ ns, lkE st.env x.1 = .nilsl) : Entails st (morph g ns k ks nx st) := by
  unfold okSg at ho
  simp only [Bool.and_eq_true, decide_eq_true_eq, List.all_eq_true] at ho
  obtain ⟨⟨hd1, hd2⟩, hlt⟩ := ho
  have hd2' : (g.map (·.2)).Nodup := by
    rw [List.map_append] at hd2
    exact (List.nodup_append.1 hd2).1
  have hdis : ∀ a s b, (a, b) ∈ g → (s, b) ∈ ns → False := fun a s b h1 h2 => by
    rw [List.map_append] at hd2
    exact (List.nodup_append.1 hd2).2.2 b (List.mem_map.2 ⟨_, h1, rfl⟩) b (List.mem_map.2 ⟨_, h2, rfl⟩) rfl
  intro w0 S a w hF ⟨pu, ow, m1, m2, m3, m4, m5, m6, m7⟩
  let ow' : Nat → Ow := fun b' => match lkI g b' with
    | some b => ow b
    | none => if b' ∈ ns.map (·.2) then .empty else .pending
  have h1 : ∀ b b', (b, b') ∈ g → ow' b' = ow b := fun b b' h => by simp only [ow', lkI_of_mem hd2' h]
  have hg : ∀ b b', lkS g b = some b' → ow' b' = ow b := fun b b' h => h1 b b' (lkS_mem h)
  have h2 : ∀ s b', (s, b') ∈ ns → ow' b' = .empty := fun s b' h => by
    have : lkI g b' = none := by
      cases hl : lkI g b' with
      | none => rfl
      | some b => exact (hdis b s b' (lkI_mem hl) h).elim
    simp only [ow', this]
    rw [if_pos (List.mem_map.2 ⟨_, h, rfl⟩)]
  have h3 : ∀ b', (∀ b, (b, b') ∉ g) → (∀ s, (s, b') ∉ ns) → ow' b' = .pending := fun b' hg hs => by
    have : lkI g b' = none := by
      cases hl : lkI g b' with
      | none => rfl
      | some b => exact (hg b (lkI_mem hl)).elim
    simp only [ow', this]
    rw [if_neg]
    rintro hm
    obtain ⟨⟨s, b⟩, hm', rfl⟩ := List.mem_map.1 hm
    exact hs s hm'
  have hcase : ∀ b' y, (ow' b').on y → ∃ b, (b, b') ∈ g ∧ (ow b).on y := fun b' y h => by
    by_cases hgx : ∃ b, (b, b') ∈ g
    · obtain ⟨b, hb⟩ := hgx
      exact ⟨b, hb, by rw [← h1 b b' hb]; exact h⟩
    · by_cases hsx : ∃ s, (s, b') ∈ ns
      · obtain ⟨s, hs⟩ := hsx
        rw [h2 s b' hs] at h; exact h.elim
      · rw [h3 b' (fun b hb => hgx ⟨b, hb⟩) (fun s hs => hsx ⟨s, hs⟩)] at h; exact h.elim
  refine ⟨pu, ow', ⟨fun b' blk' hb => ?_, fun b' hb => ?_, fun b1 b2 y e1 e2 => ?_, fun b' y e => ?_, m1.zone⟩, fun s => ?_, m3, m4, fun b' hb => ?_, m6, m7.1, m7.2.1, fun b => .inl (hF b)⟩
  · simp only [morph, lkH_append, Option.or_eq_some_iff] at hb
    rcases hb with hb | ⟨_, hb⟩
    · obtain ⟨rfl, s, hs⟩ := lkH_nilH hb
      rw [h2 s b' hs]
      exact ⟨fun _ => rfl, rfl⟩
    · obtain ⟨b, blk, hm, hb2, rfl⟩ := morphH_get hb
      rw [h1 b b' hm]
      exact (m1.blk b blk hb2).ren hg
  · simp only [morph, lkH_append, Option.or_eq_none_iff] at hb
    by_cases hgx : ∃ b, (b, b') ∈ g
    · obtain ⟨b, hm⟩ := hgx
      rw [h1 b b' hm]
      refine m1.none b ?_
      cases hl : lkH st.hp b with
      | none => rfl
      | some blk => exact (morphH_none (by rw [hl]; simp) hm hb.2).elim
    · by_cases hsx : ∃ s, (s, b') ∈ ns
      · obtain ⟨s, hs⟩ := hsx
        exact (lkH_nilH_none hs hb.1).elim
      · exact .inr (h3 b' (fun b hb => hgx ⟨b, hb⟩) (fun s hs => hsx ⟨s, hs⟩))
  · obtain ⟨c1, hc1, f1⟩ := hcase b1 _ e1
    obtain ⟨c2, hc2, f2⟩ := hcase b2 _ e2
    have := m1.injO c1 c2 _ f1 f2
    subst this
    exact fst_inj hd1 hc1 hc2
  · obtain ⟨c, hc, f⟩ := hcase b' _ e
    exact m1.ownO c _ f
  · simp only [morph]
    rw [lkE_append]
    split
    · rename_i hs
      obtain ⟨b, hb, he⟩ := lkE_nilE hs
      rw [he]
      have := m2 s
      rw [hn (s, b) hb] at this
      have hv : a.tmps.getD s undef = .slice none 0 0 := by
        generalize a.tmps.getD s undef = v at this
        cases this with
        | pure _ _ h => cases h
        | nilsl => rfl
      rw [hv]
      exact .ose none b 0 (h2 s b hb)
    · unfold morphE
      rw [lkE_restr (fun s => Go.Pv.ren g (lkE st.env s))]
      split
      · exact (m2 s).ren hg
      · exact .pure _ _ (.undef _)
  · simp only [morph] at hb
    refine h3 b' (fun b hm => ?_) fun s hm => ?_
    · have := hlt (b, b') (by simp [hm])
      simp at this
      omega
    · have := hlt (s, b') (by simp [hm])
      simp at this
      omega

theorem entails_eq {ns : Sg} {k nx : Nat} {ks : List Nat} {st st' : St} (g : Sg) (ho : okSg g ns nx = true) (hn : ∀ x ∈ ns, lkE st.env x.1 = .nilsl) (he : morph g ns k ks nx st = st') : Entails st st' := he ▸ entails_morph ho hn

theorem Entails.refl (st : St) : Entails st st := fun _ _ _ _ _ h => h
theorem Entails.trans {s s' s'' : St} (h : Entails s s') (h' : Entails s' s'') : Entails s s'' := fun _ _ _ _ hF hi => h' _ _ _ _ hF (h _ _ _ _ hF hi)

end
end Go.Pv

/- Functions. -/
namespace Go.Pv


/-- What a result is made of: memory that is not written, a nil slice, or a block of the call's own. -/
inductive Src where
  | pure | nil | blk (b : Nat)

def frsOf : List Src → List Nat
  | [] => []
  | .blk b :: l => b :: frsOf l
  | _ :: l => frsOf l

def without (frs : List Nat) (hp : Nat → Option Blk) : Nat → Option Blk := fun b => if b ∈ frs then none else hp b

def finC (hp hpX : Nat → Option Blk) : Src → D → D → Prop
  | .pure, d, r => pur hpX 64 d = some r
  | .nil, d, r => d = .nilsl ∧ ∃ k, r = .fr k []
  | .blk b, d, r => ∃ blk rows, d = .os b 0 rows.length ∧ hp b = some blk ∧ r = .fr blk.k rows ∧ if blk.flat = true then rows = blk.rows else purR hpX 64 blk.rows = some rows

def finL (hp hpX : Nat → Option Blk) : List Src → List D → List D → Prop
  | [], [], [] => True
  | s :: ss, d :: ds, r :: rs => finC hp hpX s d r ∧ finL hp hpX ss ds rs
  | _, _, _ => False

/-- The results' plain values. -/
def resD (P : Program) (st : St) : ResultVar → Option D
  | .tmp t => some (lkE st.env t)
  | .cell a t => loadD P (lkH st.hp) t (lkE st.env a)

def tupOf : List D → D
  | [d] => d
  | ds => .tup ds

def notTup : D → Bool
  | .tup _ => false
  | _ => true

/-- The results are as said. -/
def Fin1 (P : Program) (rv : List ResultVar) (st : St) (r : D) : Prop :=
  ∃ (ss : List Src) (ds rs : List D), rv.map (resD P st) = ds.map some ∧ (frsOf ss).Nodup ∧ finL (lkH st.hp) (without (frsOf ss) (lkH st.hp)) ss ds rs ∧ r = tupOf rs ∧ (rs.length = 1 → rs.all notTup = true)

/-- One cell. -/
def isCell : D → Bool
  | .agg _ => false
  | _ => true

/-- Results with structs: their cells are as said. -/
def Fin2 (P : Program) (rv : List ResultVar) (st : St) (r : D) : Prop :=
  ∃ (ss : List Src) (ds rs : List D), rv.map (resD P st) = ds.map some ∧ (frsOf ss).Nodup ∧ finL (lkH st.hp) (without (frsOf ss) (lkH st.hp)) ss (ds.flatMap cellsD) (rs.flatMap cellsD) ∧ r = tupOf rs ∧ (rs.length = 1 → rs.all notTup = true) ∧
    ds.map (fun d => (isCell d, (cellsD d).length)) = rs.map (fun d => (isCell d, (cellsD d).length)) ∧ (rs.flatMap cellsD).all isCell = true

def Fin (P : Program) (rv : List ResultVar) (st : St) (r : D) : Prop := Fin1 P rv st r ∨ Fin2 P rv st r

def finK (P : Program) (rv : List ResultVar) (out : Outc) : X → St → Prop
  | .normal, st => ∃ r, out = .ret r ∧ Fin P rv st r
  | .ret, st => ∃ r, out = .ret r ∧ Fin P rv st r
  | .pan d, _ => out = .pan d
  | _, _ => False

section
variable {P : Program} {w w' w0 : World} {pu Q : Nat → Prop} {S : Frm} {ow owX : Nat → Ow} {base : Nat} {hp hpX : Nat → Option Blk}

theorem pur_ne_fr {n : Nat} {d r : D} (h : pur hp n d = some r) : ∀ k rows, r ≠ .fr k rows := by
  rintro k rows rfl
  cases n with
  | zero => simp [pur] at h
  | succ n =>
    cases d <;> simp only [pur] at h
    case os => obtain ⟨blk, _, h⟩ := Option.bind_eq_some_iff.1 h; split at h; (obtain ⟨x, _, h⟩ := Option.map_eq_some_iff.1 h; cases h); cases h
    case op => obtain ⟨blk, _, h⟩ := Option.bind_eq_some_iff.1 h; split at h; (obtain ⟨x, _, h⟩ := Option.map_eq_some_iff.1 h; cases h); cases h
    case agg => obtain ⟨x, _, h⟩ := Option.map_eq_some_iff.1 h; cases h
    case tup => obtain ⟨x, _, h⟩ := Option.map_eq_some_iff.1 h; cases h
    case clo => obtain ⟨x, _, h⟩ := Option.bind_eq_some_iff.1 h; obtain ⟨y, _, h⟩ := Option.map_eq_some_iff.1 h; cases h
    case iface => obtain ⟨x, _, h⟩ := Option.map_eq_some_iff.1 h; cases h
    all_goals cases h

theorem adC_pur {n m : Nat} {d r : D} (h : pur hp n d = some r) : adC m r = (r, []) := by
  have := pur_ne_fr h
  cases r <;> first | rfl | exact (this _ _ rfl).elim

theorem adL_pur {n : Nat} : ∀ {rs : List D} {m : Nat}, (∀ r ∈ rs, ∃ hp k d, pur hp k d = some r) → adL m rs = (rs, [])
  | [], _, _ => rfl
  | r :: rs, m, h => by
    obtain ⟨hp, k, d, hr⟩ := h r (by simp)
    simp only [adL, adC_pur hr, adL_pur (n := n) (rs := rs) (m := m + 1) fun r hr => h r (by simp [hr])]
    rfl

theorem adE_pur {n m : Nat} {d r : D} (h : pur hp n d = some r) : adE m r = (r, []) := by
  cases r with
  | agg cs =>
    have hcs : ∀ c ∈ cs, ∃ hp k d, pur hp k d = some c := by
      cases n with
      | zero => simp [pur] at h
      | succ n =>
        cases d <;> simp only [pur] at h
        case os => obtain ⟨blk, _, h⟩ := Option.bind_eq_some_iff.1 h; split at h; (obtain ⟨x, _, h⟩ := Option.map_eq_some_iff.1 h; cases h); cases h
        case op => obtain ⟨blk, _, h⟩ := Option.bind_eq_some_iff.1 h; split at h; (obtain ⟨x, _, h⟩ := Option.map_eq_some_iff.1 h; cases h); cases h
        case tup => obtain ⟨x, _, h⟩ := Option.map_eq_some_iff.1 h; cases h
        case clo => obtain ⟨x, _, h⟩ := Option.bind_eq_some_iff.1 h; obtain ⟨y, _, h⟩ := Option.map_eq_some_iff.1 h; cases h
        case iface => obtain ⟨x, _, h⟩ := Option.map_eq_some_iff.1 h; cases h
        case agg ds =>
          obtain ⟨x, hx, h⟩ := Option.map_eq_some_iff.1 h
          injection h with h; subst h
          intro c hc
          obtain ⟨i, hi⟩ := List.mem_iff_getElem?.1 hc
          obtain ⟨d, m, _, _, hp'⟩ := (purL_get n ds x hx).2 i c hi
          exact ⟨hp, m, d, hp'⟩
        all_goals cases h
    simp only [adE, adL_pur (n := 0) hcs]
  | _ => exact adC_pur (m := m) h

/-- Where the results' own blocks lie, numbered anew. -/
def owF (ow : Nat → Ow) : Nat → List Src → List D → Nat → Ow
  | n, .pure :: ss, r :: rs, b' => owF ow (n + widE r) ss rs b'
  | n, .nil :: ss, _ :: rs, b' => if b' = n then .empty else owF ow (n + 1) ss rs b'
  | n, .blk b :: ss, _ :: rs, b' => if b' = n then ow b else owF ow (n + 1) ss rs b'
  | _, _, _, _ => .pending

theorem owF_at {g b' : Nat} : ∀ {ss : List Src} {rs : List D} {n : Nat}, (owF ow n ss rs b').on g → n ≤ b' ∧ ∃ b ∈ frsOf ss, (ow b).on g
  | [], rs, n, h => by simp [owF] at h; exact h.elim
  | s :: ss, [], n, h => by cases s <;> (simp [owF] at h; exact h.elim)
  | .pure :: ss, r :: rs, n, h => by
    simp only [owF] at h
    obtain ⟨h1, h2⟩ := owF_at h
    exact ⟨by omega, h2⟩
  | .nil :: ss, r :: rs, n, h => by
    simp only [owF] at h
    split at h
    · exact h.elim
    · obtain ⟨h1, h2⟩ := owF_at h
      exact ⟨by omega, h2⟩
  | .blk b :: ss, r :: rs, n, h => by
    simp only [owF] at h
    split at h
    · rename_i he; exact ⟨by omega, b, by simp [frsOf], h⟩
    · obtain ⟨h1, c, h2, h3⟩ := owF_at h
      exact ⟨by omega, c, by simp [frsOf, h2], h3⟩

theorem owF_inj (hinj : ∀ b b' g, (ow b).on g → (ow b').on g → b = b') {g b1 b2 : Nat} : ∀ {ss : List Src} {rs : List D} {n : Nat}, (frsOf ss).Nodup →
    (owF ow n ss rs b1).on g → (owF ow n ss rs b2).on g → b1 = b2
  | [], rs, n, _, h, _ => by simp [owF] at h; exact h.elim
  | s :: ss, [], n, _, h, _ => by cases s <;> (simp [owF] at h; exact h.elim)
  | .pure :: ss, r :: rs, n, hd, h, h' => by
    simp only [owF] at h h'
    exact owF_inj hinj (ss := ss) hd h h'
  | .nil :: ss, r :: rs, n, hd, h, h' => by
    simp only [owF] at h h'
    split at h
    · exact h.elim
    · split at h'
      · exact h'.elim
      · exact owF_inj hinj (ss := ss) hd h h'
  | .blk b :: ss, r :: rs, n, hd, h, h' => by
    simp only [frsOf, List.nodup_cons] at hd
    simp only [owF] at h h'
    split at h <;> split at h'
    · omega
    · obtain ⟨_, c, hc, e⟩ := owF_at h'
      have := hinj b c _ h e
      subst this
      exact (hd.1 hc).elim
    · obtain ⟨_, c, hc, e⟩ := owF_at h
      have := hinj b c _ h' e
      subst this
      exact (hd.1 hc).elim
    · exact owF_inj hinj (ss := ss) hd.2 h h'

theorem fin_ok (hm : Mem base w pu ow hp) (hmX : Mem base w pu owX hpX) (hX : ∀ b, owX b = ow b ∨ owX b = .dead) (hz : ∀ g, pu g → Q g) (hzX : ∀ b g o k sz, owX b = .lies g o k sz → Q g) {R : Nat → Ow} : ∀ (ss : List Src) (ds rs : List D) (n : Nat), finL hp hpX ss ds rs →
    (∀ b', n ≤ b' → R b' = owF ow n ss rs b') →
    (∀ b' blk', lkH (adT n rs).2 b' = some blk' → BlkOK w Q R (R b') blk') ∧ (∀ b', n ≤ b' → lkH (adT n rs).2 b' = none → R b' = .pending) ∧
    (adT n rs).1.length = ds.length ∧ ∀ (i : Nat) (v : Value) (d r : D), ds[i]? = some d → (adT n rs).1[i]? = some r → Rep w pu ow v d → Rep w Q R v r
  | [], [], [], n, _, hR => ⟨fun b' blk' h => by simp [adT, lkH] at h, fun b' hb _ => by rw [hR b' hb]; rfl, rfl, fun i v d r h => by simp at h⟩
  | s :: ss, d :: ds, r :: rs, n, hf, hR => by
    obtain ⟨hc, hf⟩ := hf
    have hXe : Ext w pu ow w pu owX := ⟨fun g hg => ⟨hg, rfl⟩, fun b => .inr (hX b)⟩
    cases s with
    | pure =>
      simp only [finC] at hc
      have had := adE_pur (m := n) hc
      obtain ⟨h1, h2, h3, h4⟩ := fin_ok (R := R) hm hmX hX hz hzX ss ds rs (n + widE r) hf (fun b' hb => by rw [hR b' (by omega)]; rfl)
      have hlow : ∀ b' blk', lkH (adT (n + widE r) rs).2 b' = some blk' → n + widE r ≤ b' := fun b' blk' h => (adT_range rs _ b' blk' h).1
      refine ⟨fun b' blk' h => ?_, fun b' hb h => ?_, ?_, fun i v d' r' e1 e2 hv => ?_⟩
      · simp only [adT, had, List.nil_append] at h
        exact h1 b' blk' h
      · simp only [adT, had, List.nil_append] at h
        rcases Nat.lt_or_ge b' (n + widE r) with hlt | hge
        · rw [hR b' hb]
          simp only [owF]
          have : ∀ (ss : List Src) (rs : List D) (k : Nat), b' < k → owF ow k ss rs b' = .pending := by
            intro ss
            induction ss with
            | nil => intro rs k _; rfl
            | cons s ss ih =>
              intro rs k hk
              cases rs with
              | nil => cases s <;> rfl
              | cons r rs =>
                cases s <;> simp only [owF]
                · exact ih rs _ (by omega)
                · rw [if_neg (by omega)]; exact ih rs _ (by omega)
                · rw [if_neg (by omega)]; exact ih rs _ (by omega)
          exact this ss rs _ hlt
        · exact h2 b' hge h
      · simp only [adT, had, List.length_cons, h3]
      · simp only [adT, had] at e2
        cases i with
        | zero =>
          simp at e1 e2
          subst e1 e2
          exact .pure _ _ (pur_ok hmX hz 64 v d r (hv.mono hXe) (.inr hzX) hc)
        | succ i => exact h4 i v d' r' (by simpa using e1) (by simpa using e2) hv
    | nil =>
      obtain ⟨rfl, k, rfl⟩ := hc
      have hn : R n = .empty := by rw [hR n (Nat.le_refl _)]; simp [owF]
      obtain ⟨h1, h2, h3, h4⟩ := fin_ok (R := R) hm hmX hX hz hzX ss ds rs (n + 1) hf (fun b' hb => by rw [hR b' (by omega)]; simp only [owF]; rw [if_neg (by omega)])
      refine ⟨fun b' blk' h => ?_, fun b' hb h => ?_, ?_, fun i v d' r' e1 e2 hv => ?_⟩
      · simp only [adT, adE, adC, widE, lkH_append, lkH] at h
        split at h
        · rename_i he
          subst he
          simp at h
          subst h
          rw [hn]
          exact ⟨fun _ => rfl, rfl⟩
        · exact h1 b' blk' (by simpa using h)
      · simp only [adT, adE, adC, widE, lkH_append, lkH] at h
        split at h
        · simp at h
        · rename_i he
          exact h2 b' (by omega) (by simpa using h)
      · simp only [adT, List.length_cons, widE, h3]
      · simp only [adT, adE, adC, widE] at e2
        cases i with
        | zero =>
          simp at e1 e2
          subst e1 e2
          have : v = .slice none 0 0 := by
            cases hv with
            | pure _ _ h => cases h
            | nilsl => rfl
          subst this
          exact .ose none n 0 hn
        | succ i => exact h4 i v d' r' (by simpa using e1) (by simpa using e2) hv
    | blk b =>
      obtain ⟨blk, rows, rfl, hb, rfl, hrows⟩ := hc
      have hn : R n = ow b := by rw [hR n (Nat.le_refl _)]; simp [owF]
      obtain ⟨h1, h2, h3, h4⟩ := fin_ok (R := R) hm hmX hX hz hzX ss ds rs (n + 1) hf (fun b' hb => by rw [hR b' (by omega)]; simp only [owF]; rw [if_neg (by omega)])
      refine ⟨fun b' blk' h => ?_, fun b' hb h => ?_, ?_, fun i v d' r' e1 e2 hv => ?_⟩
      · simp only [adT, adE, adC, widE, lkH_append, lkH] at h
        split at h
        · rename_i he
          subst he
          simp at h
          subst h
          rw [hn]
          have hblk := hm.blk b blk hb
          obtain ⟨hfl, hblk⟩ := hblk
          have hfacts : rows.length = blk.rows.length ∧ (∀ k, (∀ r ∈ blk.rows, r.length = k) → ∀ r ∈ rows, r.length = k) ∧ ∀ (i j : Nat) (d' : D), cellAt rows i j = some d' →
              ∃ d, cellAt blk.rows i j = some d ∧ ∀ v, Rep w pu ow v d → RepP w Q v d' := by
            split at hrows
            · rename_i hfb
              subst hrows
              exact ⟨rfl, fun k h => h, fun i j d' hd => ⟨d', hd, fun v hv => (lite_pure hv (flat_cell (hfl hfb) hd)).zone hz⟩⟩
            · obtain ⟨p1, p2, p3⟩ := purR_cell hrows
              refine ⟨p1, p2, fun i j d' hd => ?_⟩
              obtain ⟨d, m, _, hd2, hpm⟩ := p3 i j d' hd
              exact ⟨d, hd2, fun v hv => pur_ok hmX hz m v d d' (hv.mono hXe) (.inr hzX) hpm⟩
          obtain ⟨f1, f2, f3⟩ := hfacts
          refine ⟨fun h => h, ?_⟩
          generalize ow b = oo at hblk
          cases oo with
          | dead => exact hblk
          | pending => trivial
          | empty =>
            simp only at hblk ⊢
            rw [hblk] at f1
            exact List.length_eq_zero_iff.1 f1
          | mp y =>
            have hft := hblk.1.1
            rw [if_pos hft] at hrows
            subst hrows
            exact ⟨⟨hfl hft, hblk.1.2⟩, hblk.2⟩
          | lies g o k sz =>
            obtain ⟨q1, q2, q3, q4, c, t, q5, q6, q7⟩ := hblk
            refine ⟨q1, q2, f2 k q3, by rw [f1]; exact q4, c, t, q5, q6, fun i j d' hd => ?_⟩
            obtain ⟨d, hd2, hv⟩ := f3 i j d' hd
            obtain ⟨v, hv1, hv2⟩ := q7 i j d hd2
            exact ⟨v, hv1, .pure _ _ (hv v hv2)⟩
        · exact h1 b' blk' (by simpa using h)
      · simp only [adT, adE, adC, widE, lkH_append, lkH] at h
        split at h
        · simp at h
        · rename_i he
          exact h2 b' (by omega) (by simpa using h)
      · simp only [adT, List.length_cons, widE, h3]
      · simp only [adT, adE, adC, widE] at e2
        cases i with
        | zero =>
          simp at e1 e2
          subst e1 e2
          generalize rows.length = ll at hv ⊢
          cases hv with
          | pure _ _ h => cases h
          | osd a n' c _ _ _ hb' => exact .osd a n' c n 0 _ (hn.trans hb')
          | ose a _ _ hb' => exact .ose a n 0 (hn.trans hb')
          | osa a cap _ _ _ g o k sz hb' hl hm' => exact .osa a cap n 0 _ g o k sz (hn.trans hb') hl hm'
        | succ i => exact h4 i v d' r' (by simpa using e1) (by simpa using e2) hv
  | [], _ :: _, _, n, hf, _ => by simp [finL] at hf
  | [], [], _ :: _, n, hf, _ => by simp [finL] at hf
  | _ :: _, [], _, n, hf, _ => by simp [finL] at hf
  | _ :: _, _ :: _, [], n, hf, _ => by simp [finL] at hf

theorem adE_cell {n : Nat} {d : D} (h : isCell d = true) : adE n d = adC n d ∧ widE d = 1 := by
  cases d <;> first | (cases h; done) | exact ⟨rfl, rfl⟩

theorem adT_cells : ∀ {cs : List D} {n : Nat}, cs.all isCell = true → adT n cs = adL n cs
  | [], _, _ => rfl
  | c :: cs, n, h => by
    simp only [List.all_cons, Bool.and_eq_true] at h
    obtain ⟨h1, h2⟩ := adE_cell (n := n) h.1
    simp only [adT, adL, h1, h2, adT_cells h.2]

theorem adT_append : ∀ {xs ys : List D} {n : Nat}, xs.all isCell = true → adT n (xs ++ ys) = ((adT n xs).1 ++ (adT (n + xs.length) ys).1, (adT n xs).2 ++ (adT (n + xs.length) ys).2)
  | [], ys, n, _ => by simp [adT]
  | x :: xs, ys, n, h => by
    simp only [List.all_cons, Bool.and_eq_true] at h
    obtain ⟨h1, h2⟩ := adE_cell (n := n) h.1
    simp only [List.cons_append, adT, h1, h2, adT_append (xs := xs) (n := n + 1) h.2, List.length_cons, List.append_assoc, show n + 1 + xs.length = n + (xs.length + 1) by omega]

theorem cellsD_cell {d : D} (h : isCell d = true) : cellsD d = [d] := by
  cases d <;> first | (cases h; done) | rfl
theorem not_cell {d : D} (h : isCell d = false) : ∃ cs, d = .agg cs := by
  cases d <;> first | (cases h; done) | exact ⟨_, rfl⟩

theorem adT_flatten : ∀ {rs : List D} {n : Nat}, (rs.flatMap cellsD).all isCell = true → (adT n rs).2 = (adT n (rs.flatMap cellsD)).2
  | [], _, _ => rfl
  | r :: rs, n, h => by
    rw [List.flatMap_cons, List.all_append, Bool.and_eq_true] at h
    rw [List.flatMap_cons, adT_append h.1]
    simp only [adT]
    cases hc : isCell r with
    | true =>
      obtain ⟨h1, h2⟩ := adE_cell (n := n) hc
      rw [adT_flatten h.2, cellsD_cell hc, h2]
      simp [adT]
    | false =>
      obtain ⟨cs, rfl⟩ := not_cell hc
      rw [adT_flatten h.2]
      simp only [adE, widE, cellsD] at h ⊢
      rw [adT_cells h.1]

/-- What holds of the cells holds of the results. -/
theorem flat_rep {R1 R2 : Value → D → Prop} (hagg1 : ∀ v cs, R1 v (.agg cs) → ∃ vs : Array Value, v = .agg vs ∧ vs.size = cs.length ∧ ∀ (i : Nat) (v : Value) (d : D), vs[i]? = some v → cs[i]? = some d → R1 v d)
    (hagg2 : ∀ (vs : Array Value) cs, vs.size = cs.length → (∀ (i : Nat) (v : Value) (d : D), vs[i]? = some v → cs[i]? = some d → R2 v d) → R2 (.agg vs) (.agg cs)) :
    ∀ {ds rs : List D} {n : Nat}, ds.map (fun d => (isCell d, (cellsD d).length)) = rs.map (fun d => (isCell d, (cellsD d).length)) → (rs.flatMap cellsD).all isCell = true →
      (∀ (i : Nat) (v : Value) (d r : D), (ds.flatMap cellsD)[i]? = some d → (adT n (rs.flatMap cellsD)).1[i]? = some r → R1 v d → R2 v r) →
      ∀ (i : Nat) (v : Value) (d r : D), ds[i]? = some d → (adT n rs).1[i]? = some r → R1 v d → R2 v r
  | [], [], _, _, _, _, i, v, d, r, h, _, _ => by simp at h
  | [], _ :: _, _, h, _, _, _, _, _, _, _, _, _ => by simp at h
  | _ :: _, [], _, h, _, _, _, _, _, _, _, _, _ => by simp at h
  | d0 :: ds, r0 :: rs, n, hs, hall, h, i, v, d, r, h1, h2, hv => by
    simp only [List.map_cons, List.cons.injEq, Prod.mk.injEq] at hs
    obtain ⟨⟨hcell, hlen⟩, hs⟩ := hs
    rw [List.flatMap_cons, List.all_append, Bool.and_eq_true] at hall
    rw [List.flatMap_cons, List.flatMap_cons, adT_append hall.1] at h
    have hl : ∀ {cs : List D} {m : Nat}, cs.all isCell = true → (adT m cs).1.length = cs.length := by
      intro cs
      induction cs with
      | nil => intro m _; rfl
      | cons c cs ih => intro m hc; simp only [List.all_cons, Bool.and_eq_true] at hc; simp only [adT, List.length_cons, ih hc.2]
    cases i with
    | zero =>
      simp only [adT, List.getElem?_cons_zero, Option.some.injEq] at h1 h2
      subst h1 h2
      cases hc : isCell r0 with
      | true =>
        rw [cellsD_cell hc, cellsD_cell (hcell.trans hc)] at h
        rw [(adE_cell hc).1]
        refine h 0 v d0 _ (by simp) ?_ hv
        simp [adT, (adE_cell (n := n) hc).1]
      | false =>
        obtain ⟨cs, rfl⟩ := not_cell hc
        obtain ⟨ds', rfl⟩ := not_cell (hcell.trans hc)
        obtain ⟨vs, rfl, hsz, hvs⟩ := hagg1 _ _ hv
        simp only [adE]
        simp only [cellsD] at h hall hlen
        rw [adT_cells hall.1] at h
        have hl2 : (adL n cs).1.length = cs.length := by rw [← adT_cells hall.1]; exact hl hall.1
        refine hagg2 vs _ (by rw [hl2, hsz, hlen]) fun i v' d' e1 e2 => ?_
        have hi : i < ds'.length := by
          have := (Array.getElem?_eq_some_iff.1 e1).1
          omega
        refine h i v' ds'[i] d' (by rw [List.getElem?_append_left hi, List.getElem?_eq_getElem hi]) ?_ (hvs i v' _ e1 (List.getElem?_eq_getElem hi))
        rw [List.getElem?_append_left (by have := (List.getElem?_eq_some_iff.1 e2).1; exact this)]
        exact e2
    | succ i =>
      refine flat_rep hagg1 hagg2 (n := n + widE r0) hs hall.2 (fun i' v' d' r' e1 e2 => ?_) i v d r (by simpa using h1) (by simpa [adT] using h2) hv
      have hw : widE r0 = (cellsD r0).length := by cases r0 <;> rfl
      refine h ((cellsD d0).length + i') v' d' r' ?_ ?_
      · rw [List.getElem?_append_right (by omega)]; simpa using e1
      · rw [List.getElem?_append_right (by rw [hl hall.1, hlen]; omega), hl hall.1, hlen]
        rw [← hw, show widE r0 + i' - widE r0 = i' by omega]
        exact e2

end
end Go.Pv

/- A function's contract from its code. -/
namespace Go.Pv


section
variable {P : Program} {w w' w0 : World} {pu Q : Nat → Prop} {S : Frm} {ow owX : Nat → Ow} {base : Nat} {hp : Nat → Option Blk}

def resOne (tmps : Array Value) : ResultVar → Sem Value
  | .tmp t => pure (tmps.getD t undef)
  | .cell a t => do loadVar t (← asAddr (tmps.getD a undef))

theorem loadVar_ok (hm : Mem base w pu ow hp) {t : TypeId} {a : Value} {c d : D} (ha : Rep w pu ow a c) (h : loadD P hp t c = some d) :
    ∃ v, ((asAddr a).bind fun x => loadVar t x).run P w = .ok v w ∧ Rep w pu ow v d := by
  unfold loadD at h
  split at h
  · obtain ⟨b, off, f, rfl, _, hm', hf⟩ := ha.ptr_inv
    obtain ⟨v, h1, h2⟩ := run_loadVar_of (cells_of_ptr hm' hf) h
    exact ⟨v, h1, h2⟩
  · rename_i b row off
    obtain ⟨blk, hb, h⟩ := Option.bind_eq_some_iff.1 h
    have hblk := hm.blk b blk hb
    have hd : ow b ≠ .dead := fun hd => by rw [hd] at hblk; exact hblk.2
    obtain ⟨g, o, k, sz, hat, rfl⟩ := ha.op_inv hd
    rw [hat] at hblk
    obtain ⟨v, h1, h2⟩ := run_loadVar_of (P := P) (w := w) (pu := pu) (ow := ow) (b := g) (off := o + row * k + off) (cs := (getRow blk.rows row).drop off) (fun j c hj => by
      rw [List.getElem?_drop] at hj
      obtain ⟨v, h1, h2⟩ := hblk.cell (cellAt_some hj)
      exact ⟨v, by rw [← h1]; congr 2; omega, h2⟩) h
    exact ⟨v, h1, h2⟩
  · cases h

theorem resOne_ok {st : St} {a : Act} (hm : Mem base w pu ow (lkH st.hp)) (he : EnvOK w pu ow st.env a) {rv : ResultVar} {d : D} (h : resD P st rv = some d) :
    ∃ v, (resOne a.tmps rv).run P w = .ok v w ∧ Rep w pu ow v d := by
  cases rv with
  | tmp t =>
    simp only [resD, Option.some.injEq] at h
    subst h
    exact ⟨_, rfl, he t⟩
  | cell a' t => exact loadVar_ok hm (he a') h

theorem resAll_ok {st : St} {a : Act} (hm : Mem base w pu ow (lkH st.hp)) (he : EnvOK w pu ow st.env a) : ∀ (rvs : List ResultVar) (ds : List D), rvs.map (resD P st) = ds.map some →
    ∃ vs : List Value, (rvs.mapM (resOne a.tmps)).run P w = .ok vs w ∧ vs.length = ds.length ∧ ∀ (i : Nat) (v : Value) (d : D), vs[i]? = some v → ds[i]? = some d → Rep w pu ow v d
  | [], [], _ => ⟨[], by simp, rfl, fun i v d h => by simp at h⟩
  | [], _ :: _, h => by simp at h
  | _ :: _, [], h => by simp at h
  | rv :: rvs, d :: ds, h => by
    simp only [List.map_cons, List.cons.injEq] at h
    obtain ⟨v, h1, h2⟩ := resOne_ok hm he h.1
    obtain ⟨vs, h3, h4, h5⟩ := resAll_ok hm he rvs ds h.2
    refine ⟨v :: vs, ?_, by simp [h4], fun i v' d' e1 e2 => ?_⟩
    · simp [List.mapM_cons, h1, h3]
    · cases i with
      | zero => simp at e1 e2; subst e1 e2; exact h2
      | succ i => exact h5 i v' d' (by simpa using e1) (by simpa using e2)

theorem results_ok {fn : Func} {st : St} {a : Act} (hm : Mem base w pu ow (lkH st.hp)) (he : EnvOK w pu ow st.env a) {ds : List D} (h : fn.results.toList.map (resD P st) = ds.map some) :
    ∃ vs : List Value, (results fn a.tmps).run P w = .ok (match vs with | [v] => v | vs => .tuple vs.toArray) w ∧ vs.length = ds.length ∧ ∀ (i : Nat) (v : Value) (d : D), vs[i]? = some v → ds[i]? = some d → Rep w pu ow v d := by
  obtain ⟨vs, h1, h2, h3⟩ := resAll_ok (P := P) hm he _ _ h
  refine ⟨vs, ?_, h2, h3⟩
  have hr : results fn a.tmps = (do let vs ← fn.results.mapM (resOne a.tmps); pure (if h : vs.size = 1 then vs[0] else .tuple vs)) := by
    unfold results
    congr 1
  rw [hr, Array.mapM_eq_mapM_toList]
  simp only [Sem.run_bind, Sem.run_map, h1, Result.andThen_ok, Sem.run_pure]
  congr 1
  match vs with
  | [] => simp
  | [v] => simp
  | v :: u :: vs => simp

/-- What the results come to. -/
theorem fin_core {fn : Func} {st : St} {a : Act} (hi : InvI w0 S st.nx st a w) {ss : List Src} {ds rs fl : List D} (h1 : fn.results.toList.map (resD P st) = ds.map some) (h2 : (frsOf ss).Nodup) (hlen : rs.length = ds.length) (h5 : rs.length = 1 → rs.all notTup = true)
    (HF : ∀ {pu Q : Nat → Prop} {ow owX R : Nat → Ow} (n : Nat), Mem w0.heap.size w pu ow (lkH st.hp) → Mem w0.heap.size w pu owX (without (frsOf ss) (lkH st.hp)) → (∀ b, owX b = ow b ∨ owX b = .dead) → (∀ g, pu g → Q g) → (∀ b g o k sz, owX b = .lies g o k sz → Q g) → (∀ b', n ≤ b' → R b' = owF ow n ss fl b') →
      (∀ b' blk', lkH (adT n rs).2 b' = some blk' → BlkOK w Q R (R b') blk') ∧ (∀ b', n ≤ b' → lkH (adT n rs).2 b' = none → R b' = .pending) ∧
      (adT n rs).1.length = ds.length ∧ ∀ (i : Nat) (v : Value) (d r : D), ds[i]? = some d → (adT n rs).1[i]? = some r → Rep w pu ow v d → Rep w Q R v r) :
    a.defers = [] ∧ ∃ v, (results fn a.tmps).run P w = .ok v w ∧ After w0 S.z (.ret (tupOf rs)) (.returned v) w := by
  obtain ⟨pu, ow, hm, he, hb, hz, hid, hs, hd⟩ := hi
  obtain ⟨vs, g1, g2, g3⟩ := results_ok (P := P) (fn := fn) hm he h1
  refine ⟨hd.1, _, g1, hb, ?_⟩
  let owX : Nat → Ow := fun b => if b ∈ frsOf ss then .dead else ow b
  have hX : ∀ b, owX b = ow b ∨ owX b = .dead := fun b => by simp only [owX]; split <;> simp
  have hXe : Ext w pu ow w pu owX := ⟨fun g hg => ⟨hg, rfl⟩, fun b => .inr (hX b)⟩
  have hXat : ∀ b g o k sz, owX b = .lies g o k sz → b ∉ frsOf ss ∧ ow b = .lies g o k sz := fun b g o k sz h => by
    simp only [owX] at h
    split at h
    · cases h
    · rename_i hn; exact ⟨hn, h⟩
  have hXon : ∀ b g, (owX b).on g → b ∉ frsOf ss ∧ (ow b).on g := fun b g h => by
    simp only [owX] at h
    split at h
    · exact h.elim
    · rename_i hn; exact ⟨hn, h⟩
  have hmX : Mem w0.heap.size w pu owX (without (frsOf ss) (lkH st.hp)) := by
    refine ⟨fun b blk hb => ?_, fun b hb => ?_, fun b b' g e e' => hm.injO b b' g (hXon _ _ e).2 (hXon _ _ e').2, fun b g e => hm.ownO b g (hXon _ _ e).2, hm.zone⟩
    · simp only [without] at hb
      split at hb
      · cases hb
      · rename_i hn
        have : owX b = ow b := if_neg hn
        rw [this]
        exact (hm.blk b blk hb).mono hXe fun _ _ => rfl
    · simp only [without] at hb
      split at hb
      · rename_i hn; left; exact if_pos hn
      · rename_i hn
        have : owX b = ow b := if_neg hn
        rw [this]
        exact hm.none b hb
  let Q : Nat → Prop := fun g => pu g ∨ ∃ b o k sz, owX b = .lies g o k sz
  have hzQ : ∀ g, pu g → Q g := fun g h => .inl h
  have hzX : ∀ b g o k sz, owX b = .lies g o k sz → Q g := fun b g o k sz h => .inr ⟨b, o, k, sz, h⟩
  refine ⟨Q, fun g hg => ?_, _, rfl, fun n => ?_⟩
  · rcases hg with hg | ⟨b, o, k, sz, hat⟩
    · exact ⟨hm.zone g hg, hz g hg⟩
    · have := (hXat _ _ _ _ _ hat).2
      exact ⟨hm.at_lt this, .inr (hm.own b g o k sz this).1⟩
  · let R : Nat → Ow := fun b' => if n ≤ b' then owF ow n ss fl b' else .pending
    obtain ⟨f1, f2, f3, f4⟩ := HF (R := R) n hm hmX hX hzQ hzX (fun b' hb' => if_pos hb')
    have hRat : ∀ b' g, (R b').on g → (owF ow n ss fl b').on g := fun b' g h => by
      simp only [R] at h
      split at h
      · exact h
      · exact h.elim
    have hMem : Mem w0.heap.size w Q R (lkH (adT n rs).2) := by
      refine ⟨f1, fun b' hb' => .inr ?_, fun b1 b2 g e1 e2 => owF_inj hm.injO h2 (hRat _ _ e1) (hRat _ _ e2), fun b' g e => ?_, fun g hg => ?_⟩
      · rcases Nat.lt_or_ge b' n with h | h
        · exact if_neg (by omega)
        · exact f2 b' h hb'
      · obtain ⟨_, c, hc, hat⟩ := owF_at (hRat _ _ e)
        obtain ⟨q1, q2⟩ := hm.ownO c g hat
        refine ⟨q1, fun hq => ?_⟩
        rcases hq with hq | ⟨b, o2, k2, sz2, hb2⟩
        · exact q2 hq
        · obtain ⟨q3, q4⟩ := hXat _ _ _ _ _ hb2
          have := hm.injO b c _ (Ow.on_lies q4) hat
          subst this
          exact q3 hc
      · rcases hg with hg | ⟨b, o, k, sz, hat⟩
        · exact hm.zone g hg
        · exact hm.at_lt (hXat _ _ _ _ _ hat).2
    have hpend : ∀ b', lkH (adT n rs).2 b' = none → R b' = .pending := fun b' hb' => by
      rcases Nat.lt_or_ge b' n with h | h
      · exact if_neg (by omega)
      · exact f2 b' h hb'
    have htup : ∀ (vs : List Value), vs.length = ds.length → (∀ (i : Nat) (v : Value) (d : D), vs[i]? = some v → ds[i]? = some d → Rep w pu ow v d) → Rep w Q R (.tuple vs.toArray) (.tup (adT n rs).1) := fun vs hvl hvs => by
      refine .tup _ _ (by simp [f3, hvl]) fun i v r e1 e2 => ?_
      have hi : i < ds.length := by
        have := (List.getElem?_eq_some_iff.1 e2).1
        omega
      exact f4 i v ds[i] r (List.getElem?_eq_getElem hi) e2 (hvs i v ds[i] (by simpa using e1) (List.getElem?_eq_getElem hi))
    match rs, vs, hlen, g2, h5 with
    | [], [], hl, _, _ => exact ⟨R, hMem, htup [] (by simpa using hl) (fun i v d h => by simp at h), hpend⟩
    | [], _ :: _, hl, hg, _ => simp only [List.length_nil, List.length_cons] at hl hg; omega
    | _ :: _, [], hl, hg, _ => simp only [List.length_nil, List.length_cons] at hl hg; omega
    | [_], _ :: _ :: _, hl, hg, _ => simp only [List.length_nil, List.length_cons] at hl hg; omega
    | _ :: _ :: _, [_], hl, hg, _ => simp only [List.length_nil, List.length_cons] at hl hg; omega
    | r1 :: r2 :: rs, v1 :: v2 :: vs, hl, hg, _ => exact ⟨R, hMem, htup _ hg g3, hpend⟩
    | [r], [v], hl, hg, h5 =>
      have hnt : notTup r = true := by simpa using h5 rfl
      have had : adopt n r = adE n r := by cases r <;> first | rfl | cases hnt
      have h2' : (adT n [r]).2 = (adE n r).2 := by simp [adT]
      refine ⟨R, ?_, ?_, ?_⟩
      · show Mem _ _ _ _ (lkH (adopt n r).2)
        rw [had, ← h2']; exact hMem
      · show Rep _ _ _ v (adopt n r).1
        rw [had]
        have hdl : 0 < ds.length := by simp at hl; omega
        exact f4 0 v ds[0] _ (List.getElem?_eq_getElem hdl) (by simp [adT]) (g3 0 v ds[0] rfl (List.getElem?_eq_getElem hdl))
      · show ∀ b, lkH (adopt n r).2 b = none → R b = .pending
        rw [had, ← h2']; exact hpend

theorem finL_length {hp hpX : Nat → Option Blk} : ∀ {ss : List Src} {ds rs : List D}, finL hp hpX ss ds rs → rs.length = ds.length
  | [], [], [], _ => rfl
  | _ :: _, _ :: _, _ :: _, h => by simp [finL_length h.2]
  | [], _ :: _, _, h => h.elim
  | [], [], _ :: _, h => h.elim
  | _ :: _, [], _, h => by simp [finL] at h
  | _ :: _, _ :: _, [], h => by simp [finL] at h

theorem fin_after {fn : Func} {st : St} {a : Act} {r : D} (hi : InvI w0 S st.nx st a w) (hf : Fin P fn.results.toList st r) :
    a.defers = [] ∧ ∃ v, (results fn a.tmps).run P w = .ok v w ∧ After w0 S.z (.ret r) (.returned v) w := by
  rcases hf with ⟨ss, ds, rs, h1, h2, h3, rfl, h5⟩ | ⟨ss, ds, rs, h1, h2, h3, rfl, h5, h6, h7⟩
  · exact fin_core hi h1 h2 (finL_length h3) h5 fun {pu Q ow owX R} n hm hmX hX hz hzX hR => fin_ok hm hmX hX hz hzX ss ds rs n h3 hR
  · have hlen : rs.length = ds.length := by have := congrArg List.length h6; simpa using this.symm
    refine fin_core (fl := rs.flatMap cellsD) hi h1 h2 hlen h5 fun {pu Q ow owX R} n hm hmX hX hz hzX hR => ?_
    obtain ⟨f1, f2, f3, f4⟩ := fin_ok hm hmX hX hz hzX ss _ _ n h3 hR
    have e := adT_flatten (n := n) h7
    have hl : ∀ {rs : List D} {m : Nat}, (adT m rs).1.length = rs.length := by
      intro rs
      induction rs with
      | nil => intro m; rfl
      | cons r rs ih => intro m; simp only [adT, List.length_cons, ih]
    refine ⟨fun b' blk' h => f1 b' blk' (by rw [← e]; exact h), fun b' hb h => f2 b' hb (by rw [← e]; exact h), hl.trans hlen, ?_⟩
    exact flat_rep (R1 := Rep w pu ow) (R2 := Rep w Q R) (fun v cs h => h.agg_inv) (fun vs cs h1 h2 => .agg vs cs h1 h2) h6 h7 f4

def argsE : Nat → List D → Env
  | _, [] => []
  | n, d :: ds => (n, d) :: argsE (n + 1) ds

theorem lkE_argsE : ∀ {ds : List D} {n s : Nat}, lkE (argsE n ds) s = if n ≤ s then ds.getD (s - n) .undef else .undef
  | [], n, s => by simp [argsE, lkE]
  | d :: ds, n, s => by
    simp only [argsE, lkE, lkE_argsE (ds := ds)]
    by_cases h : s = n
    · subst h; simp
    · rw [if_neg h]
      by_cases h2 : n ≤ s
      · rw [if_pos h2, if_pos (by omega), show s - n = (s - (n + 1)) + 1 by omega, List.getD_cons_succ]
      · rw [if_neg h2, if_neg (by omega)]

theorem contract_of {f : FuncId} {fn : Func} {c : Code} {ds : List D} {out : Outc} (hmix : P.follows .mixedOrders = true) (hf : P.funcs[f]? = some fn) (hb : fn.body = some c) (hname : (fn.name == "runtime.NumGoroutine") = false)
    (hn : ds.length ≤ fn.ntmps) (h : ev P c (finK P fn.results.toList out) ⟨argsE 0 ds, [], 0, fn.ntmps⟩) : Contract P f ds out := by
  refine ⟨⟨fn, hf, by rw [hb]; rfl, hname⟩, fun S w args hS ⟨hlen, hargs⟩ => ?_⟩
  refine calls_of_wp hf hb ?_
  have hi : InvI w ⟨S, w, S, fun _ => .pending⟩ 0 ⟨argsE 0 ds, [], 0, fn.ntmps⟩ { tmps := args ++ Array.replicate (fn.ntmps - args.size) undef, defers := [] } w := by
    refine ⟨S, fun _ => .pending, ⟨fun b blk hb => by simp [lkH] at hb, fun b _ => .inr rfl, fun b b' g h => h.elim, fun b g h => h.elim, hS⟩, fun s => ?_, Below.refl _ _, fun g hg => .inl hg, fun b _ => rfl, by simp; omega, rfl, fun g hg => ⟨hg, rfl⟩, fun b => .inl rfl⟩
    simp only
    rw [lkE_argsE, if_pos (Nat.zero_le _), Nat.sub_zero, Array.getD_eq_getD_getElem?, Array.getElem?_append]
    split
    · rename_i hs
      rw [Array.getElem?_eq_getElem hs, List.getD_eq_getElem?_getD, List.getElem?_eq_getElem (by omega)]
      simp only [Option.getD_some]
      exact .pure _ _ (hargs s _ _ (Array.getElem?_eq_getElem hs) (List.getElem?_eq_getElem (by omega)))
    · rename_i hs
      rw [List.getD_eq_getElem?_getD, List.getElem?_eq_none (by omega)]
      exact .pure _ _ (.undef _)
  refine wp_mono (ev_ok hmix c _ _ _ w (fun _ => rfl) hi h) fun e a w' he => ?_
  cases e with
  | normal =>
    obtain ⟨st, ⟨r, rfl, hfin⟩, hi'⟩ := he
    exact fin_after hi' hfin
  | ret =>
    obtain ⟨st, ⟨r, rfl, hfin⟩, hi'⟩ := he
    exact fin_after hi' hfin
  | panic chain =>
    obtain ⟨d, ⟨st, hk⟩, hdf, hbl, Q, v, rfl, hQ, hv⟩ := he
    simp only [finK] at hk
    subst hk
    exact ⟨hdf, hbl, Q, hQ, v, rfl, hv⟩
  | exit id => obtain ⟨st, hk, _⟩ := he; exact hk.elim
  | _ => exact he.elim

end
end Go.Pv

/- Evaluation, step by step, for simp. -/
namespace Go.Pv

def kOps (P : Program) (all rest : List Oper) (id : Nat) (K : X → St → Prop) : X → St → Prop
  | .normal, st => evOps P all rest id st K
  | x, st => K x st

section
variable {P : Program} {E : St → St → Prop} {K : X → St → Prop} {st : St} {env : Env} {hp : Hp} {nx n id : Nat} {dst : Option Tmp} {all rest : List Oper}

theorem go_seq {a b : Code} (h : evG E P a (kSeq (evG E P b K) K) st) : evG E P (.seq a b) K st := .inl h
theorem kOps_eq : (fun x st' => match x with | .normal => evOps P all rest id st' K | x => K x st') = kOps P all rest id K := by
  funext x st'
  cases x <;> rfl

theorem evOps_none {op : Op} {ty : TypeId} {pos : String} {af : Array Edge} : evOps P all ({ dst := dst, op := op, type := ty, pos := pos, after := af, guard := none } :: rest) id st K = evOp P op id dst st (kOps P all rest (id + 32) K) := by
  rw [← kOps_eq]; rfl

theorem evOps_some {op : Op} {ty : TypeId} {pos : String} {af : Array Edge} {j : Nat} {want : Bool} : evOps P all ({ dst := dst, op := op, type := ty, pos := pos, after := af, guard := some (j, want) } :: rest) id ⟨env, hp, nx, n⟩ K =
    ∃ r, guardD all env j = some r ∧ (∀ b, r = some b → (b = want → evOp P op id dst ⟨env, hp, nx, n⟩ (kOps P all rest (id + 32) K)) ∧ (b = (!want) → okDst n dst = true ∧ evOps P all rest (id + 32) ⟨putE dst .skip env, hp, nx, n⟩ K)) ∧
      (r = none → okDst n dst = true ∧ evOps P all rest (id + 32) ⟨putE dst .skip env, hp, nx, n⟩ K) := by
  rw [← kOps_eq]
  apply propext
  simp only [evOps, St.put]
  cases hg : guardD all env j with
  | none => simp
  | some r =>
    cases r with
    | none => simp
    | some b =>
      simp only
      constructor
      · intro h
        exact ⟨_, rfl, fun b' hb => by injection hb with hb; subst hb; exact h, fun hn => by cases hn⟩
      · rintro ⟨r, h, h1, _⟩; injection h with h; subst h; exact h1 b rfl

theorem evOp_op0 {o : Op} (hs : evOp P o id dst ⟨env, hp, nx, n⟩ K = match op0 P (evalD env) (lkH hp) o with
    | some d => stepK ⟨env, hp, nx, n⟩ dst d env hp K
    | none =>
      match op1 P (evalD env) o with
      | some (ptr, blk) => stepK ⟨env, hp, nx, n⟩ dst (outD id ptr blk) env ((id, blk) :: hp) K
      | none =>
        match nilB P (evalD env) (lkH hp) o with
        | some bs => ∀ b ∈ bs, stepK ⟨env, hp, nx, n⟩ dst (.bool b) env hp K
        | none => False) (h1 : op1 P (evalD env) o = none) (h2 : nilB P (evalD env) (lkH hp) o = none) : evOp P o id dst ⟨env, hp, nx, n⟩ K = ∃ d, op0 P (evalD env) (lkH hp) o = some d ∧ okDst n dst = true ∧ K .normal ⟨putE dst d env, hp, nx, n⟩ := by
  rw [hs, h1, h2]
  apply propext
  cases op0 P (evalD env) (lkH hp) o <;> simp [stepK]

section
variable {x y z : Operand} {t t' : TypeId}

theorem evOp_move : evOp P (.move x) id dst ⟨env, hp, nx, n⟩ K = (okDst n dst = true ∧ K .normal ⟨putE dst (evalD env x) env, hp, nx, n⟩) := rfl
theorem evOp_load : evOp P (.load t x) id dst ⟨env, hp, nx, n⟩ K = ∃ d, loadD P (lkH hp) t (evalD env x) = some d ∧ okDst n dst = true ∧ K .normal ⟨putE dst d env, hp, nx, n⟩ := evOp_op0 rfl rfl rfl
theorem evOp_binOp {op : BinOp} (h : ∃ d, binD P op t (evalD env x) (evalD env y) = some d ∧ okDst n dst = true ∧ K .normal ⟨putE dst d env, hp, nx, n⟩) : evOp P (.binOp op t x y t') id dst ⟨env, hp, nx, n⟩ K := by
  obtain ⟨d, h1, h2, h3⟩ := h
  unfold evOp
  have h0 : op0 P (evalD env) (lkH hp) (.binOp op t x y t') = some d := h1
  simp only [h0]
  exact ⟨h2, h3⟩
theorem evOp_unOp {op : UnOp} : evOp P (.unOp op t x) id dst ⟨env, hp, nx, n⟩ K = ∃ d, unD op (evalD env x) = some d ∧ okDst n dst = true ∧ K .normal ⟨putE dst d env, hp, nx, n⟩ := evOp_op0 rfl rfl rfl
theorem evOp_pick : evOp P (.pick x y z) id dst ⟨env, hp, nx, n⟩ K = ∃ d, pickD (evalD env x) (evalD env y) (evalD env z) = some d ∧ okDst n dst = true ∧ K .normal ⟨putE dst d env, hp, nx, n⟩ := evOp_op0 rfl rfl rfl
theorem evOp_fieldAddr {f : Nat} : evOp P (.fieldAddr t x f) id dst ⟨env, hp, nx, n⟩ K = ∃ d, fieldAddrD P (lkH hp) t (evalD env x) f = some d ∧ okDst n dst = true ∧ K .normal ⟨putE dst d env, hp, nx, n⟩ := evOp_op0 rfl rfl rfl
theorem evOp_indexAddr : evOp P (.indexAddr t x y) id dst ⟨env, hp, nx, n⟩ K = ∃ d, indexAddrD P (lkH hp) t (evalD env x) (evalD env y) = some d ∧ okDst n dst = true ∧ K .normal ⟨putE dst d env, hp, nx, n⟩ := evOp_op0 rfl rfl rfl
theorem evOp_index : evOp P (.index t x y) id dst ⟨env, hp, nx, n⟩ K = ∃ d, indexD P t (evalD env x) (evalD env y) = some d ∧ okDst n dst = true ∧ K .normal ⟨putE dst d env, hp, nx, n⟩ := evOp_op0 rfl rfl rfl
theorem evOp_extract {i : Nat} : evOp P (.extract x i) id dst ⟨env, hp, nx, n⟩ K = ∃ d, extractD (evalD env x) i = some d ∧ okDst n dst = true ∧ K .normal ⟨putE dst d env, hp, nx, n⟩ := evOp_op0 rfl rfl rfl
theorem evOp_slice {lo hi : Option Operand} : evOp P (.slice t x lo hi none) id dst ⟨env, hp, nx, n⟩ K = ∃ d, sliceD P (lkH hp) t (evalD env x) (lo.map (evalD env)) (hi.map (evalD env)) = some d ∧ okDst n dst = true ∧ K .normal ⟨putE dst d env, hp, nx, n⟩ := evOp_op0 rfl rfl rfl
theorem evOp_len : evOp P (.call { callee := .builtin .len, args := #[x], argTypes := #[t] }) id dst ⟨env, hp, nx, n⟩ K = ∃ d, lenD P (lkH hp) t (evalD env x) = some d ∧ okDst n dst = true ∧ K .normal ⟨putE dst d env, hp, nx, n⟩ := evOp_op0 rfl rfl rfl
theorem evOp_min {xs : List Operand} {ts : Array TypeId} : evOp P (.call { callee := .builtin .min, args := (x :: xs).toArray, argTypes := ts }) id dst ⟨env, hp, nx, n⟩ K = ∃ d, foldD min2D (evalD env x) (xs.map (evalD env)) = some d ∧ okDst n dst = true ∧ K .normal ⟨putE dst d env, hp, nx, n⟩ := evOp_op0 rfl rfl rfl
theorem evOp_max {xs : List Operand} {ts : Array TypeId} : evOp P (.call { callee := .builtin .max, args := (x :: xs).toArray, argTypes := ts }) id dst ⟨env, hp, nx, n⟩ K = ∃ d, foldD max2D (evalD env x) (xs.map (evalD env)) = some d ∧ okDst n dst = true ∧ K .normal ⟨putE dst d env, hp, nx, n⟩ := evOp_op0 rfl rfl rfl

theorem evOp_build {parts : List (Nat × Operand)} : evOp P (.build t parts.toArray) id dst ⟨env, hp, nx, n⟩ K = ∃ d, buildD P t (parts.map fun (i, x) => (i, evalD env x)) = some d ∧ okDst n dst = true ∧ K .normal ⟨putE dst d env, hp, nx, n⟩ := by
  apply propext
  simp only [evOp]
  cases buildD P t (parts.map fun (i, x) => (i, evalD env x)) <;> simp [stepK]

theorem evOp_alloc : evOp P (.alloc t) id dst ⟨env, hp, nx, n⟩ K = ∃ z, zeroD P t = some z ∧ (known z = true ∧ 0 < (cellsD z).length) ∧ okDst n dst = true ∧ K .normal ⟨putE dst (.op id 0 0) env, (id, ⟨(cellsD z).length, flatRows [cellsD z], [cellsD z]⟩) :: hp, nx, n⟩ := by
  apply propext
  simp only [evOp, op0, op1]
  cases zeroD P t with
  | none => simp [nilB]
  | some z =>
    simp only [Option.bind_some, Option.some.injEq, exists_eq_left']
    by_cases h : known z = true ∧ 0 < (cellsD z).length
    · simp only [stepK, outD, if_true, h, true_and, and_self]
    · simp only [h, false_and, if_false, nilB]

theorem evOp_box : evOp P (.box t x) id dst ⟨env, hp, nx, n⟩ K = ((known (evalD env x) = true ∧ 0 < (cellsD (evalD env x)).length) ∧ okDst n dst = true ∧ K .normal ⟨putE dst (.op id 0 0) env, (id, ⟨(cellsD (evalD env x)).length, flatRows [cellsD (evalD env x)], [cellsD (evalD env x)]⟩) :: hp, nx, n⟩) := by
  apply propext
  simp only [evOp, op0, op1]
  by_cases h : known (evalD env x) = true ∧ 0 < (cellsD (evalD env x)).length
  · simp only [stepK, outD, if_true, h, true_and, and_self]
  · simp only [h, false_and, if_false, nilB]

theorem evOp_store : evOp P (.store t x y) id dst ⟨env, hp, nx, n⟩ K = ∃ bb, storeD P (lkH hp) t (evalD env x) (evalD env y) = some bb ∧ okDst n dst = true ∧ K .normal ⟨putE dst .skip env, updH bb.1 bb.2 hp, nx, n⟩ := by
  apply propext
  simp only [evOp]
  cases storeD P (lkH hp) t (evalD env x) (evalD env y) with
  | none => simp
  | some bb => obtain ⟨b, blk⟩ := bb; simp [stepK]

end
end
end Go.Pv

/- Branches, calls, ends. -/
namespace Go.Pv

section
variable {P : Program} {E : St → St → Prop} {K : X → St → Prop} {env : Env} {hp : Hp} {nx n id : Nat} {dst : Option Tmp} {all rest : List Oper}

theorem go_cond {c : Operand} {a b : Code} {t : Bool} (h : evalD env c = .bool t) (h1 : t = true → evG E P a K ⟨env, hp, nx, n⟩) (h2 : t = false → evG E P b K ⟨env, hp, nx, n⟩) : evG E P (.cond c a b) K ⟨env, hp, nx, n⟩ := ⟨t, h, h1, h2⟩

theorem go_cond_t {c : Operand} {a b : Code} {t : Bool} (h : evalD env c = .bool t) (ht : t = true) (h1 : evG E P a K ⟨env, hp, nx, n⟩) : evG E P (.cond c a b) K ⟨env, hp, nx, n⟩ := ⟨t, h, fun _ => h1, fun hf => absurd (ht.symm.trans hf) (by decide)⟩
theorem go_cond_f {c : Operand} {a b : Code} {t : Bool} (h : evalD env c = .bool t) (ht : t = false) (h1 : evG E P b K ⟨env, hp, nx, n⟩) : evG E P (.cond c a b) K ⟨env, hp, nx, n⟩ := ⟨t, h, fun hf => absurd (ht.symm.trans hf) (by decide), fun _ => h1⟩

theorem go_guard {op : Op} {ty : TypeId} {pos : String} {af : Array Edge} {j : Nat} {want p : Bool} (hg : guardD all env j = some (some p)) (h1 : p = want → evOp P op id dst ⟨env, hp, nx, n⟩ (kOps P all rest (id + 32) K))
    (h2 : p = (!want) → okDst n dst = true ∧ evOps P all rest (id + 32) ⟨putE dst .skip env, hp, nx, n⟩ K) : evOps P all ({ dst := dst, op := op, type := ty, pos := pos, after := af, guard := some (j, want) } :: rest) id ⟨env, hp, nx, n⟩ K := by
  rw [evOps_some]
  exact ⟨_, hg, fun b hb => by injection hb with hb; subst hb; exact ⟨h1, h2⟩, fun hn => by cases hn⟩

theorem go_run {op : Op} {ty : TypeId} {pos : String} {af : Array Edge} {j : Nat} {want p : Bool} (hg : guardD all env j = some (some p)) (hp' : p = want) (h1 : evOp P op id dst ⟨env, hp, nx, n⟩ (kOps P all rest (id + 32) K)) :
    evOps P all ({ dst := dst, op := op, type := ty, pos := pos, after := af, guard := some (j, want) } :: rest) id ⟨env, hp, nx, n⟩ K :=
  go_guard hg (fun _ => h1) fun h => by rw [hp'] at h; cases want <;> cases h

theorem go_pass {op : Op} {ty : TypeId} {pos : String} {af : Array Edge} {j : Nat} {want p : Bool} (hg : guardD all env j = some (some p)) (hp' : p = (!want)) (hd : okDst n dst = true) (h1 : evOps P all rest (id + 32) ⟨putE dst .skip env, hp, nx, n⟩ K) :
    evOps P all ({ dst := dst, op := op, type := ty, pos := pos, after := af, guard := some (j, want) } :: rest) id ⟨env, hp, nx, n⟩ K :=
  go_guard hg (fun h => by rw [hp'] at h; cases want <;> cases h) fun _ => ⟨hd, h1⟩

/-- A call that returns. -/
theorem go_call {f : Operand} {args : List Operand} {ts : Array TypeId} {g : FuncId} {xs ys args' : List D} {r : D} (hf : evalD env f = .clo (.func g) xs ys) (hp' : purL (lkH hp) 64 (xs ++ args.map (evalD env) ++ ys) = some args')
    (hc : Contract P g args' (.ret r)) (ho : (pureL (xs ++ args.map (evalD env) ++ ys) || refless r) = true) (hw : widR r ≤ 32) (hd : okDst n dst = true) (h : K .normal ⟨putE dst (adopt id r).1 env, (adopt id r).2 ++ hp, nx, n⟩) :
    evOp P (.call { callee := .value f, args := args.toArray, argTypes := ts }) id dst ⟨env, hp, nx, n⟩ K := by
  simp only [Bool.or_eq_true] at ho
  simp only [evOp, evCall, hf]
  refine ⟨args', .ret r, by simpa using hp', hc, ?_, hw, hd, h⟩
  rcases ho with h | h
  · exact .inl (by simpa using h)
  · exact .inr h

theorem go_append_on {s x : Operand} {t : TypeId} {b : Nat} {blk : Blk} (h : appendD P (lkH hp) t (evalD env s) (evalD env x) = some (some b, blk)) (hd : okDst n dst = true) (hk : K .normal ⟨putE dst (.os b 0 blk.rows.length) (purgeE b env), (b, blk) :: purgeH b hp, nx, n⟩) :
    evOp P (.call { callee := .builtin .append, args := #[s, x], argTypes := #[t, t] }) id dst ⟨env, hp, nx, n⟩ K := by
  simp only [evOp, if_true, h]
  exact ⟨hd, hk⟩

/-- One result. -/
theorem fin1 {rv : ResultVar} {d r : D} (h : resD P ⟨env, hp, nx, n⟩ rv = some d) (hp' : pur (lkH hp) 64 d = some r) (hn : notTup r = true) : Fin P [rv] ⟨env, hp, nx, n⟩ r := by
  refine .inl ⟨[.pure], [d], [r], by simp [h], by simp [frsOf], ⟨?_, trivial⟩, rfl, fun _ => by simp [hn]⟩
  have : without (frsOf [.pure]) (lkH hp) = lkH hp := by funext b; simp [without, frsOf]
  rw [this]
  exact hp'

theorem fin1_fr {rv : ResultVar} {b k : Nat} {fl : Bool} {rows rows' : List (List D)} (h : resD P ⟨env, hp, nx, n⟩ rv = some (.os b 0 rows'.length)) (hb : lkH hp b = some ⟨k, fl, rows⟩) (hr : if fl = true then rows' = rows else purR (without [b] (lkH hp)) 64 rows = some rows') :
    Fin P [rv] ⟨env, hp, nx, n⟩ (.fr k rows') :=
  .inl ⟨[.blk b], [.os b 0 rows'.length], [.fr k rows'], by simp [h], by simp [frsOf], ⟨⟨⟨k, fl, rows⟩, rows', rfl, hb, rfl, hr⟩, trivial⟩, rfl, fun _ => rfl⟩

theorem finK_ret {rv : List ResultVar} {st : St} {r : D} (h : Fin P rv st r) : finK P rv (.ret r) .ret st := ⟨r, rfl, h⟩
end
end Go.Pv

/- One step an operation; what is known of types comes as instances. -/
namespace Go.Pv

class TSh (P : Program) (t : TypeId) (s : outParam Sh) : Prop where h : sh P t = s
class TSlice (P : Program) (t : TypeId) (e : outParam TypeId) (k : outParam Nat) : Prop where
  u : P.underlying t = some (.slice e)
  c : P.cellsOf e = k
  p : 0 < k
class TField (P : Program) (t : TypeId) (f : Nat) (o : outParam Nat) (t' : outParam TypeId) : Prop where
  h : fieldB P t f = some (o, t')
  c : P.cellsOf t' ≠ 0
class TZero (P : Program) (t : TypeId) (z : outParam D) : Prop where
  h : zeroD P t = some z
  k : known z = true
  c : 0 < (cellsD z).length
class TLay (P : Program) (t : TypeId) (z : outParam (List D)) (pl : outParam (List (Nat × Nat))) : Prop where h : layS P t = some (z, pl)
class TCells (P : Program) (t : TypeId) (k : outParam Nat) : Prop where
  h : P.cellsOf t = k
  p : 0 < k
theorem kne {a k : Nat} (h : a = k) (hk : k ≠ 0) : a ≠ 0 := h ▸ hk

class TInt (P : Program) (t : TypeId) (k : outParam IntKind) : Prop where h : P.underlying t = some (.int k)

section
variable {P : Program} {E : St → St → Prop} {K : X → St → Prop} {env : Env} {hp : Hp} {nx n id : Nat} {dst : Option Tmp} {all rest : List Oper} {x y z : Operand} {t t' : TypeId} {d : D} {s : Tmp}

theorem go_op {op : Op} {ty : TypeId} {pos : String} {af : Array Edge} (h : evOp P op id dst ⟨env, hp, nx, n⟩ (kOps P all rest (id + 32) K)) :
    evOps P all ({ dst := dst, op := op, type := ty, pos := pos, after := af, guard := none } :: rest) id ⟨env, hp, nx, n⟩ K := by rw [evOps_none]; exact h
theorem go_next (h : evOps P all rest id ⟨env, hp, nx, n⟩ K) : kOps P all rest id K .normal ⟨env, hp, nx, n⟩ := h
theorem go_nil (h : K .normal ⟨env, hp, id, n⟩) : evOps P all [] id ⟨env, hp, nx, n⟩ K := h
theorem go_kseq {f : St → Prop} {st : St} (h : f st) : kSeq f K .normal st := h
theorem go_kseq_ret {f : St → Prop} {st : St} (h : K .ret st) : kSeq f K .ret st := h
theorem go_kseq_exit {f : St → Prop} {st : St} {i : Nat} (h : K (.exit i) st) : kSeq f K (.exit i) st := h
theorem go_kblock {st : St} {i : Nat} (h : K .normal st) : kBlock i K .normal st := h
theorem go_kblock_ret {st : St} {i : Nat} (h : K .ret st) : kBlock i K .ret st := h
theorem go_kblock_exit {st : St} {i : Nat} (h : K .normal st) : kBlock i K (.exit i) st := by simpa [kBlock] using h
theorem go_skipc {st : St} (h : K .normal st) : evG E P .skip K st := h
theorem go_ret {st : St} (h : K .ret st) : evG E P .ret K st := h
theorem go_exit {st : St} {i : Nat} (h : K (.exit i) st) : evG E P (.exit i) K st := h
theorem go_block {st : St} {i : Nat} {c : Code} (h : evG E P c (kBlock i K) st) : evG E P (.block i c) K st := h
theorem go_region {i : Nat} {l : List Oper} (h : evOps P l l nx ⟨env, hp, nx, n⟩ K) : evG E P (.region i l.toArray false) K ⟨env, hp, nx, n⟩ := .inl h
theorem go_move (h : evalD env x = d) (hd : okDst n (some s) = true) (hk : K .normal ⟨(s, d) :: env, hp, nx, n⟩) : evOp P (.move x) id (some s) ⟨env, hp, nx, n⟩ K := by rw [evOp_move, h]; exact ⟨hd, hk⟩
def cmpD (op : BinOp) (a b : Int) : Option Bool :=
  match op with
  | .eql => some (decide (a = b))
  | .neq => some (!decide (a = b))
  | .lss => some (decide (a < b))
  | .leq => some (decide (a ≤ b))
  | .gtr => some (decide (b < a))
  | .geq => some (decide (b ≤ a))
  | _ => none

/-- Whatever needs no range. -/
theorem go_bin {op : BinOp} (h : binD P op t (evalD env x) (evalD env y) = some d) (hd : okDst n (some s) = true) (hk : K .normal ⟨(s, d) :: env, hp, nx, n⟩) : evOp P (.binOp op t x y t') id (some s) ⟨env, hp, nx, n⟩ K := evOp_binOp ⟨d, h, hd, hk⟩

theorem go_cmp {op : BinOp} {k : IntKind} {a b : Int} {p : Bool} (hc : cmpD op a b = some p) (h1 : evalD env x = .int k a) (h2 : evalD env y = .int k b) (hd : okDst n (some s) = true) (hk : K .normal ⟨(s, (.bool p)) :: env, hp, nx, n⟩) :
    evOp P (.binOp op t x y t') id (some s) ⟨env, hp, nx, n⟩ K := go_bin (d := .bool p) (by rw [h1, h2]; cases op <;> simp only [cmpD, Option.some.injEq, reduceCtorEq] at hc <;> subst hc <;> simp [binD, intD]) hd hk

theorem wrap64 {a : Int} (h : -9223372036854775808 ≤ a ∧ a ≤ 9223372036854775807) : IntKind.wrap .i64 a = a := by
  rw [IntKind.wrap_i64]; omega

theorem go_add {a b : Int} (h1 : evalD env x = .int .i64 a) (h2 : evalD env y = .int .i64 b) (hd : okDst n (some s) = true) (hr : -9223372036854775808 ≤ a + b ∧ a + b ≤ 9223372036854775807) (hk : K .normal ⟨(s, (.int .i64 (a + b))) :: env, hp, nx, n⟩) :
    evOp P (.binOp .add t x y t') id (some s) ⟨env, hp, nx, n⟩ K := go_bin (d := .int .i64 (a + b)) (by rw [h1, h2]; simp [binD, intD, wrap64 hr]) hd hk
theorem go_sub {a b : Int} (h1 : evalD env x = .int .i64 a) (h2 : evalD env y = .int .i64 b) (hd : okDst n (some s) = true) (hr : -9223372036854775808 ≤ a - b ∧ a - b ≤ 9223372036854775807) (hk : K .normal ⟨(s, (.int .i64 (a - b))) :: env, hp, nx, n⟩) :
    evOp P (.binOp .sub t x y t') id (some s) ⟨env, hp, nx, n⟩ K := go_bin (d := .int .i64 (a - b)) (by rw [h1, h2]; simp [binD, intD, wrap64 hr]) hd hk
theorem go_mul {a b : Int} (h1 : evalD env x = .int .i64 a) (h2 : evalD env y = .int .i64 b) (hd : okDst n (some s) = true) (hr : -9223372036854775808 ≤ a * b ∧ a * b ≤ 9223372036854775807) (hk : K .normal ⟨(s, (.int .i64 (a * b))) :: env, hp, nx, n⟩) :
    evOp P (.binOp .mul t x y t') id (some s) ⟨env, hp, nx, n⟩ K := go_bin (d := .int .i64 (a * b)) (by rw [h1, h2]; simp [binD, intD, wrap64 hr]) hd hk
theorem go_rem {a b : Int} (h1 : evalD env x = .int .i64 a) (h2 : evalD env y = .int .i64 b) (hd : okDst n (some s) = true) (hb : b ≠ 0) (hk : K .normal ⟨(s, (.int .i64 (a.tmod b))) :: env, hp, nx, n⟩) :
    evOp P (.binOp .rem t x y t') id (some s) ⟨env, hp, nx, n⟩ K := go_bin (d := .int .i64 (a.tmod b)) (by rw [h1, h2]; simp [binD, intD, hb]) hd hk

theorem go_not {p : Bool} (h1 : evalD env x = .bool p) (hd : okDst n (some s) = true) (hk : K .normal ⟨(s, (.bool !p)) :: env, hp, nx, n⟩) :
    evOp P (.unOp .not t x) id (some s) ⟨env, hp, nx, n⟩ K := by rw [evOp_unOp]; exact ⟨.bool !p, by rw [h1]; rfl, hd, hk⟩

theorem go_pick {p q : Bool} (h : evalD env x = .bool p) (hy : (if p = true then evalD env y else evalD env z) = .bool q) (hd : okDst n (some s) = true) (hk : K .normal ⟨(s, .bool q) :: env, hp, nx, n⟩) : evOp P (.pick x y z) id (some s) ⟨env, hp, nx, n⟩ K := by
  rw [evOp_pick]; exact ⟨.bool q, by rw [h, ← hy]; rfl, hd, hk⟩

theorem go_load {sh' : Sh} {cs : List D} [hs : TSh P t sh'] (h : evalD env x = .ptr cs) (hc : fromCells sh' cs = some d) (hd : okDst n (some s) = true) (hk : K .normal ⟨(s, d) :: env, hp, nx, n⟩) : evOp P (.load t x) id (some s) ⟨env, hp, nx, n⟩ K := by
  rw [evOp_load]; exact ⟨d, by rw [h]; simp only [loadD, hs.h]; exact hc, hd, hk⟩
theorem go_load_own {sh' : Sh} {b row off : Nat} {blk : Blk} [hs : TSh P t sh'] (h : evalD env x = .op b row off) (hb : lkH hp b = some blk) (hc : fromCells sh' ((getRow blk.rows row).drop off) = some d) (hd : okDst n (some s) = true) (hk : K .normal ⟨(s, d) :: env, hp, nx, n⟩) :
    evOp P (.load t x) id (some s) ⟨env, hp, nx, n⟩ K := by
  rw [evOp_load]; exact ⟨d, by rw [h]; simp only [loadD, hs.h, hb]; exact hc, hd, hk⟩

theorem go_fieldAddr_own {f o : Nat} {t' : TypeId} {b row off : Nat} {blk : Blk} [hf : TField P t f o t'] (h : evalD env x = .op b row off) (hb : lkH hp b = some blk) (hd : okDst n (some s) = true) (hk : K .normal ⟨(s, (.op b row (off + o))) :: env, hp, nx, n⟩) :
    evOp P (.fieldAddr t x f) id (some s) ⟨env, hp, nx, n⟩ K := by
  rw [evOp_fieldAddr]; exact ⟨_, by rw [h]; simp [fieldAddrD, hf.h, hf.c, hb], hd, hk⟩
/-- An element of a slice that is not written. -/
theorem go_index {α : Type} {e : TypeId} {k : Nat} {l : List α} {f : α → List D} {ik : IntKind} {i : Int} [hs : TSlice P t e k] (h : evalD env x = .sl (l.map f)) (h2 : evalD env y = .int ik i) (hk : ∀ a, (f a).length = k) (hd : okDst n (some s) = true)
    (hi : 0 ≤ i ∧ i < l.length) (hc : ∀ (hlt : i.toNat < l.length), K .normal ⟨(s, (.ptr (f l[i.toNat]))) :: env, hp, nx, n⟩) : evOp P (.indexAddr t x y) id (some s) ⟨env, hp, nx, n⟩ K := by
  have hlt : i.toNat < l.length := by omega
  have hg : getRow (l.map f) i.toNat = f l[i.toNat] := by simp [getRow, List.getD_eq_getElem?_getD, hlt]
  rw [evOp_indexAddr]
  refine ⟨.ptr (f l[i.toNat]), ?_, hd, hc hlt⟩
  rw [h, h2]
  simp only [indexAddrD, hs.u, hg]
  rw [if_pos]
  exact ⟨hi.1, by simpa using hi.2, by rw [hk, hs.c], by rw [hs.c]; exact hs.p⟩

/-- An element of a slice of one's own. -/
theorem go_index_own {e : TypeId} {k : Nat} {b off len : Nat} {blk : Blk} {ik : IntKind} {i : Int} [hs : TSlice P t e k] (h : evalD env x = .os b off len) (h2 : evalD env y = .int ik i) (hb : lkH hp b = some blk) (hd : okDst n (some s) = true)
    (hkk : blk.k = k) (hi : (0 ≤ i ∧ i < len) ∧ off + len ≤ blk.rows.length) (hc : K .normal ⟨(s, (.op b (off + i.toNat) 0)) :: env, hp, nx, n⟩) : evOp P (.indexAddr t x y) id (some s) ⟨env, hp, nx, n⟩ K := by
  rw [evOp_indexAddr]
  refine ⟨.op b (off + i.toNat) 0, ?_, hd, hc⟩
  rw [h, h2]
  simp only [indexAddrD, hs.u, hb]
  rw [if_pos]
  exact ⟨hi.1.1, hi.1.2, hi.2, by rw [hkk, hs.c], by rw [hs.c]; exact hs.p⟩

theorem go_len {α : Type} {e : TypeId} {k : Nat} {l : List α} {f : α → List D} [hs : TSlice P t e k] (h : evalD env x = .sl (l.map f)) (hd : okDst n (some s) = true) (hk : K .normal ⟨(s, (.int .i64 l.length)) :: env, hp, nx, n⟩) :
    evOp P (.call { callee := .builtin .len, args := #[x], argTypes := #[t] }) id (some s) ⟨env, hp, nx, n⟩ K := by
  rw [evOp_len]; exact ⟨_, by rw [h]; simp [lenD, hs.u], hd, hk⟩
theorem go_len_own {e : TypeId} {k : Nat} {b off len : Nat} {blk : Blk} [hs : TSlice P t e k] (h : evalD env x = .os b off len) (hb : lkH hp b = some blk) (hd : okDst n (some s) = true) (hk : K .normal ⟨(s, (.int .i64 len)) :: env, hp, nx, n⟩) :
    evOp P (.call { callee := .builtin .len, args := #[x], argTypes := #[t] }) id (some s) ⟨env, hp, nx, n⟩ K := by
  rw [evOp_len]; exact ⟨_, by rw [h]; simp [lenD, hs.u, hb], hd, hk⟩
theorem go_extract {i : Nat} (h : extractD (evalD env x) i = some d) (hd : okDst n (some s) = true) (hk : K .normal ⟨(s, d) :: env, hp, nx, n⟩) : evOp P (.extract x i) id (some s) ⟨env, hp, nx, n⟩ K := by rw [evOp_extract]; exact ⟨d, h, hd, hk⟩

theorem go_build {parts : List (Nat × Operand)} {zs cs : List D} {pl : List (Nat × Nat)} [hl : TLay P t zs pl] (h : fillD (pl[·]?) zs (parts.map fun (i, x) => (i, evalD env x)) = some cs) (hd : okDst n (some s) = true) (hk : K .normal ⟨(s, (.agg cs)) :: env, hp, nx, n⟩) :
    evOp P (.build t parts.toArray) id (some s) ⟨env, hp, nx, n⟩ K := by
  rw [evOp_build]; exact ⟨.agg cs, by simp only [buildD, hl.h, Option.bind_some, h, Option.map_some], hd, hk⟩

theorem go_alloc {zd : D} {cs : List D} {fl : Bool} [hz : TZero P t zd] (hcs : cellsD zd = cs) (hfl : flatRows [cs] = fl) (hd : okDst n (some s) = true) (hk : K .normal ⟨(s, (.op id 0 0)) :: env, (id, ⟨cs.length, fl, [cs]⟩) :: hp, nx, n⟩) : evOp P (.alloc t) id (some s) ⟨env, hp, nx, n⟩ K := by
  subst hcs hfl
  rw [evOp_alloc]; exact ⟨zd, hz.h, ⟨hz.k, hz.c⟩, hd, hk⟩
theorem go_box {v : D} {cs : List D} {fl : Bool} (h : evalD env x = v) (hkn : known v = true) (hcs : cellsD v = cs) (hp0 : 0 < cs.length) (hfl : flatRows [cs] = fl) (hd : okDst n (some s) = true) (hk : K .normal ⟨(s, (.op id 0 0)) :: env, (id, ⟨cs.length, fl, [cs]⟩) :: hp, nx, n⟩) :
    evOp P (.box t x) id (some s) ⟨env, hp, nx, n⟩ K := by
  subst h hcs hfl
  rw [evOp_box]; exact ⟨⟨hkn, hp0⟩, hd, hk⟩

theorem go_store {b row off k : Nat} {v : D} {blk : Blk} {rows : List (List D)} {fl : Bool} [hc : TCells P t k] (ha : evalD env x = .op b row off) (hv : evalD env y = v) (hb : lkH hp b = some blk) (hkn : known v = true) (hl : (cellsD v).length = k) (h1 : (cellsD v).all cell1 = true)
    (hfit : off + k ≤ blk.k) (hrow : row < blk.rows.length) (hrows : blk.rows.set row (spliceL (getRow blk.rows row) off (cellsD v)) = rows) (hfl : (blk.flat && (cellsD v).all lite) = fl) (hk : K .normal ⟨env, updH b ⟨blk.k, fl, rows⟩ hp, nx, n⟩) :
    evOp P (.store t x y) id none ⟨env, hp, nx, n⟩ K := by
  subst hv hrows hfl
  rw [evOp_store]
  refine ⟨(b, _), ?_, rfl, hk⟩
  rw [ha]
  simp only [storeD, hb, Option.bind_some]
  rw [if_pos]
  rw [hc.h]
  exact ⟨hrow, hkn, hl, hc.p, hfit, h1⟩


theorem go_mv_int {k : IntKind} {a : Int} (h : evalD env x = .int k a) (hd : okDst n (some s) = true) (hk : K .normal ⟨(s, .int k a) :: env, hp, nx, n⟩) : evOp P (.move x) id (some s) ⟨env, hp, nx, n⟩ K := go_move h hd hk
theorem go_mv_bool {a : Bool} (h : evalD env x = .bool a) (hd : okDst n (some s) = true) (hk : K .normal ⟨(s, .bool a) :: env, hp, nx, n⟩) : evOp P (.move x) id (some s) ⟨env, hp, nx, n⟩ K := go_move h hd hk
theorem go_mv_sl {a : List (List D)} (h : evalD env x = .sl a) (hd : okDst n (some s) = true) (hk : K .normal ⟨(s, .sl a) :: env, hp, nx, n⟩) : evOp P (.move x) id (some s) ⟨env, hp, nx, n⟩ K := go_move h hd hk
theorem go_mv_os {b o l : Nat} (h : evalD env x = .os b o l) (hd : okDst n (some s) = true) (hk : K .normal ⟨(s, .os b o l) :: env, hp, nx, n⟩) : evOp P (.move x) id (some s) ⟨env, hp, nx, n⟩ K := go_move h hd hk
theorem go_mv_tup {a : List D} (h : evalD env x = .tup a) (hd : okDst n (some s) = true) (hk : K .normal ⟨(s, .tup a) :: env, hp, nx, n⟩) : evOp P (.move x) id (some s) ⟨env, hp, nx, n⟩ K := go_move h hd hk
theorem go_mv_nilsl (h : evalD env x = .nilsl) (hd : okDst n (some s) = true) (hk : K .normal ⟨(s, .nilsl) :: env, hp, nx, n⟩) : evOp P (.move x) id (some s) ⟨env, hp, nx, n⟩ K := go_move h hd hk
theorem go_mv_clo {f : Fn} {a b : List D} (h : evalD env x = .clo f a b) (hd : okDst n (some s) = true) (hk : K .normal ⟨(s, .clo f a b) :: env, hp, nx, n⟩) : evOp P (.move x) id (some s) ⟨env, hp, nx, n⟩ K := go_move h hd hk
theorem go_as (h : evOp P (.move x) id (some s) ⟨env, hp, nx, n⟩ K) : evOp P (.assign x) id (some s) ⟨env, hp, nx, n⟩ K := h
end
end Go.Pv

/- Loops, regions whose order is open, ends. -/
namespace Go.Pv

theorem stepK_mono {K K' : X → St → Prop} (h : ∀ x st, K x st → K' x st) {st : St} {dst : Option Tmp} {d : D} {env : Env} {hp : Hp} (hk : stepK st dst d env hp K) : stepK st dst d env hp K' := ⟨hk.1, h _ _ hk.2⟩

theorem evOp_mono {P : Program} {K K' : X → St → Prop} (h : ∀ x st, K x st → K' x st) {o : Op} {id : Nat} {dst : Option Tmp} {st : St} (hk : evOp P o id dst st K) : evOp P o id dst st K' := by
  unfold evOp at hk ⊢
  split at hk
  · split at hk
    · exact stepK_mono h hk
    · exact hk
  · unfold evCall at hk ⊢
    split at hk
    · obtain ⟨args', out, h1, h2, h3, h4⟩ := hk
      refine ⟨args', out, h1, h2, h3, ?_⟩
      cases out with
      | ret r => exact ⟨h4.1, stepK_mono h h4.2⟩
      | pan d => exact h _ _ h4
    · exact hk
  · split at hk
    · split at hk
      · rename_i hargs hts htt
        rw [if_pos htt]
        split at hk
        · exact stepK_mono h hk
        · exact stepK_mono h hk
        · exact hk
      · exact hk.elim
    · exact hk
  · split at hk
    · exact stepK_mono h hk
    · exact hk
  · split at hk
    · exact stepK_mono h hk
    · split at hk
      · exact stepK_mono h hk
      · split at hk
        · exact fun b hb => stepK_mono h (hk b hb)
        · exact hk

theorem evOps_mono {P : Program} {all : List Oper} : ∀ (l : List Oper) {K K' : X → St → Prop} (_ : ∀ x st, K x st → K' x st) {id : Nat} {st : St}, evOps P all l id st K → evOps P all l id st K'
  | [], _, _, h, _, _, hk => h _ _ hk
  | o :: rest, K, K', h, id, st, hk => by
    have hrun : evOp P o.op id o.dst st (fun x st' => match x with | .normal => evOps P all rest (id + 32) st' K | x => K x st') → evOp P o.op id o.dst st (fun x st' => match x with | .normal => evOps P all rest (id + 32) st' K' | x => K' x st') :=
      evOp_mono fun x st hx => by cases x <;> first | exact evOps_mono rest h hx | exact h _ _ hx
    unfold evOps at hk ⊢
    simp only at hk ⊢
    split at hk
    · exact hrun hk
    · split at hk
      · exact ⟨fun hb => hrun (hk.1 hb), fun hb => ⟨(hk.2 hb).1, evOps_mono rest h (hk.2 hb).2⟩⟩
      · exact ⟨hk.1, evOps_mono rest h hk.2⟩
      · exact hk

theorem evLine_mono {P : Program} {all : List Oper} {m : Nat} : ∀ (l : List Oper) (zs : List (List Nat)) {K K' : X → St → Prop} (_ : ∀ x st, K x st → K' x st) {id : Nat} {st : St}, evLine P all m l zs id st K → evLine P all m l zs id st K'
  | [], [], _, _, h, _, _, hk => h _ _ hk
  | [], _ :: _, _, _, _, _, _, hk => hk.elim
  | _ :: _, [], _, _, _, _, _, hk => hk.elim
  | o :: rest, z :: zs, K, K', h, id, st, hk => by
    simp only [evLine] at hk ⊢
    exact evOp_mono (fun x st hx => by
      cases x with
      | normal => exact ⟨hx.1, evLine_mono rest zs h hx.2⟩
      | _ => exact hx) hk

theorem evCallM_mono {P : Program} {K K' : X → St → Prop} (h : ∀ x st, K x st → K' x st) {o : Op} {dst : Option Tmp} {st : St} (hk : evCallM P o dst st K) : evCallM P o dst st K' := by
  unfold evCallM at hk ⊢
  split at hk
  · split at hk
    · obtain ⟨b, blk, args', r, blk', h1, h2, h3, h4, h5, h6⟩ := hk
      exact ⟨b, blk, args', r, blk', h1, h2, h3, h4, h5, stepK_mono h h6⟩
    · exact hk.elim
  · exact hk.elim

theorem evCallX_mono {P : Program} {K K' : X → St → Prop} (h : ∀ x st, K x st → K' x st) {o : Op} {dst : Option Tmp} {st : St} (hk : evCallX P o dst st K) : evCallX P o dst st K' := by
  unfold evCallX at hk ⊢
  split at hk
  · split at hk
    · obtain ⟨b, blk, args', r, blk', h1, h2, h3, h4, h5, h6⟩ := hk
      exact ⟨b, blk, args', r, blk', h1, h2, h3, h4, h5, stepK_mono h h6⟩
    · exact hk.elim
  · exact hk.elim

theorem evClear_mono {P : Program} {K K' : X → St → Prop} (h : ∀ x st, K x st → K' x st) {o : Op} {dst : Option Tmp} {st : St} (hk : evClear P o dst st K) : evClear P o dst st K' := by
  unfold evClear at hk ⊢
  split at hk
  · obtain ⟨x, t, e, b, off, len, blk, h1, h2, h3, h4, h5, h6, h7, h8, h9⟩ := hk
    exact ⟨x, t, e, b, off, len, blk, h1, h2, h3, h4, h5, h6, h7, h8, stepK_mono h h9⟩
  · exact hk.elim

theorem evMap_mono {P : Program} {K K' : X → St → Prop} (h : ∀ x st, K x st → K' x st) {o : Op} {id : Nat} {dst : Option Tmp} {st : St} (hk : evMap P o id dst st K) : evMap P o id dst st K' := by
  unfold evMap at hk ⊢
  split at hk
  · exact stepK_mono h hk
  · obtain ⟨b, rows, k', kt, et, td, h1, h2, h3, h4, h5, h6, h7, h8⟩ := hk
    exact ⟨b, rows, k', kt, et, td, h1, h2, h3, h4, h5, h6, h7, stepK_mono h h8⟩
  · exact hk.elim

theorem evCopy_mono {P : Program} {K K' : X → St → Prop} (h : ∀ x st, K x st → K' x st) {o : Op} {dst : Option Tmp} {st : St} (hk : evCopy P o dst st K) : evCopy P o dst st K' := by
  unfold evCopy at hk ⊢
  split at hk
  · obtain ⟨x, y, t, e, b, off, len, m, blk, new, fl, rows, h1, h2, h3, h4, h5, h6, h7, h8, h9, h10, h11, h12, h13, h14, h15, h16, h17⟩ := hk
    exact ⟨x, y, t, e, b, off, len, m, blk, new, fl, rows, h1, h2, h3, h4, h5, h6, h7, h8, h9, h10, h11, h12, h13, h14, h15, h16, stepK_mono h h17⟩
  · exact hk.elim

theorem evLineM_mono {P : Program} {all : List Oper} {m : Nat} : ∀ (l : List Oper) (zs : List (List Nat)) {K K' : X → St → Prop} (_ : ∀ x st, K x st → K' x st) {id : Nat} {st : St}, evLineM P all m l zs id st K → evLineM P all m l zs id st K'
  | [], [], _, _, h, _, _, hk => h _ _ hk
  | [], _ :: _, _, _, _, _, _, hk => hk.elim
  | _ :: _, [], _, _, _, _, _, hk => hk.elim
  | o :: rest, z :: zs, K, K', h, id, st, hk => by
    simp only [evLineM] at hk ⊢
    exact hk.imp (evOp_mono (fun x st hx => by
      cases x with
      | normal => exact ⟨hx.1, evLineM_mono rest zs h hx.2⟩
      | _ => exact hx)) (Or.imp (evCallM_mono (fun x st hx => by
      cases x with
      | normal => exact ⟨hx.1, evLineM_mono rest zs h hx.2⟩
      | _ => exact hx)) (Or.imp (evCallX_mono (fun x st hx => by
      cases x with
      | normal => exact ⟨hx.1, evLineM_mono rest zs h hx.2⟩
      | _ => exact hx)) (evCopy_mono (fun x st hx => by
      cases x with
      | normal => exact ⟨hx.1, evLineM_mono rest zs h hx.2⟩
      | _ => exact hx))))

theorem evOpsM_mono {P : Program} {all : List Oper} : ∀ (l : List Oper) {K K' : X → St → Prop} (_ : ∀ x st, K x st → K' x st) {id : Nat} {st : St}, evOpsM P all l id st K → evOpsM P all l id st K'
  | [], K, K', h, id, st, hk => h _ _ hk
  | o :: rest, K, K', h, id, st, hk => by
    have hr : ∀ (x : X) (st : St), (match x with | .normal => evOpsM P all rest (id + 32) st K | x => K x st) → (match x with | .normal => evOpsM P all rest (id + 32) st K' | x => K' x st) := fun x st hx => by
      cases x with
      | normal => exact evOpsM_mono rest h hx
      | _ => exact h _ _ hx
    unfold evOpsM at hk ⊢
    simp only at hk ⊢
    refine hk.imp (fun hk => ?_) fun hk => ⟨hk.1, hk.2.imp (evCallM_mono hr) (Or.imp (evClear_mono hr) (Or.imp (evMap_mono hr) (Or.imp (evCallX_mono hr) (evCopy_mono hr))))⟩
    cases hg : o.guard with
    | none => rw [hg] at hk; exact evOp_mono hr hk
    | some jw =>
      obtain ⟨j, want⟩ := jw
      rw [hg] at hk
      simp only at hk ⊢
      split at hk
      · exact ⟨fun hb => evOp_mono hr (hk.1 hb), fun hb => ⟨(hk.2 hb).1, evOpsM_mono rest h (hk.2 hb).2⟩⟩
      · exact ⟨hk.1, evOpsM_mono rest h hk.2⟩
      · exact hk.elim

theorem ev_mono {P : Program} {E : St → St → Prop} : ∀ (c : Code) (K K' : X → St → Prop) (st : St), (∀ x st, K x st → K' x st) → evG E P c K st → evG E P c K' st := by
  intro c
  induction c with
  | skip => exact fun K K' st h hk => h _ _ hk
  | label l => exact fun K K' st h hk => h _ _ hk
  | region id ops draw =>
    intro K K' st h hk
    cases draw with
    | false => exact hk.imp (evOps_mono _ h) (evOpsM_mono _ h)
    | true =>
      rcases hk with ⟨m, h1, h2, h3⟩ | ⟨m, zs, h1, h2, h3⟩ | ⟨m, zs, h1, h2, h3⟩
      · exact .inl ⟨m, h1, h2, evOps_mono _ (fun x st hx => by cases x <;> first | exact evOps_mono _ h hx | exact hx) h3⟩
      · exact .inr (.inl ⟨m, zs, h1, h2, evOps_mono _ (fun x st hx => by cases x <;> first | exact evLine_mono _ _ h hx | exact hx) h3⟩)
      · exact .inr (.inr ⟨m, zs, h1, h2, evOps_mono _ (fun x st hx => by cases x <;> first | exact evLineM_mono _ _ h hx | exact hx) h3⟩)
  | seq a b iha ihb =>
    intro K K' st h hk
    rcases hk with hk | ⟨s1, hk, hk1⟩
    · exact .inl (iha _ _ st (fun x st hx => by cases x <;> first | exact ihb _ _ st h hx | exact h _ _ hx) hk)
    · exact .inr ⟨s1, iha _ _ st (fun x st hx => by cases x <;> first | exact hx | exact h _ _ hx) hk, ihb _ _ s1 h hk1⟩
  | cond c a b iha ihb =>
    intro K K' st h hk
    obtain ⟨t, h1, h2, h3⟩ := hk
    exact ⟨t, h1, fun ht => iha _ _ st h (h2 ht), fun ht => ihb _ _ st h (h3 ht)⟩
  | block id c ih =>
    intro K K' st h hk
    refine ih _ _ st (fun x st hx => ?_) hk
    cases x with
    | exit i =>
      simp only [kBlock] at hx ⊢
      split at hx
      · rename_i he; rw [if_pos he]; exact h _ _ hx
      · rename_i he; rw [if_neg he]; exact h _ _ hx
    | _ => exact h _ _ hx
  | loop c ih =>
    intro K K' st h hk
    obtain ⟨I, n, h1, h2⟩ := hk
    exact ⟨I, n, h1, fun n s hI => ih _ _ s (fun x st hx => by cases x <;> first | exact hx | exact h _ _ hx) (h2 n s hI)⟩
  | exit id => exact fun K K' st h hk => h _ _ hk
  | ret => exact fun K K' st h hk => h _ _ hk
  | scope c ih => exact fun K K' st h hk => ih K K' st h hk
  | _ => exact fun K K' st h hk => hk

section
variable {P : Program} {E : St → St → Prop} {K : X → St → Prop} {env : Env} {hp : Hp} {nx n id : Nat} {all : List Oper}

theorem go_loop (I : Nat → St → Prop) (N : Nat) {c : Code} {st : St} (s : St) (he : E st s) (h0 : I N s) (h : ∀ n s, I n s → evG E P c (kSeq (fun st' => ∃ n' s', n' < n ∧ E st' s' ∧ I n' s') K) s) : evG E P (.loop c) K st :=
  ⟨I, N, ⟨s, he, h0⟩, h⟩

/-- A loop that counts to N at most. -/
theorem go_count (N : Nat) (S : Nat → St) (C : Nat → Prop) {c : Code} {st : St} (he : E st (S 0)) (h0 : C 0)
    (h : ∀ i, i ≤ N → C i → evG E P c (kSeq (fun st' => i < N ∧ C (i + 1) ∧ E st' (S (i + 1))) K) (S i)) : evG E P (.loop c) K st := by
  refine go_loop (fun m s => ∃ i, i ≤ N ∧ m = N - i ∧ C i ∧ s = S i) N (S 0) he ⟨0, Nat.zero_le _, by omega, h0, rfl⟩ ?_
  rintro m s ⟨i, hi, rfl, hC, rfl⟩
  have := h i hi hC
  have key : ∀ (c : Code) (f g : St → Prop) (s : St), (∀ st, f st → g st) → evG E P c (kSeq f K) s → evG E P c (kSeq g K) s := fun c f g s hfg => ev_mono c _ _ s fun x st hx => by
    cases x <;> first | exact hfg st hx | exact hx
  refine key c _ _ _ (fun st' ⟨h1, h2, h3⟩ => ?_) this
  exact ⟨N - (i + 1), S (i + 1), by omega, h3, i + 1, by omega, rfl, h2, rfl⟩

theorem go_take {m : Nat} {o : Oper} {l : List Oper} {st : St} (h : evOps P all (o :: List.take m l) id st K) : evOps P all (List.take (m + 1) (o :: l)) id st K := h
theorem go_take0 {l : List Oper} {st : St} (h : evOps P all [] id st K) : evOps P all (List.take 0 l) id st K := h
theorem go_drop {m : Nat} {o : Oper} {l : List Oper} {st : St} (h : evOps P all (List.drop m l) id st K) : evOps P all (List.drop (m + 1) (o :: l)) id st K := h
theorem go_drop0 {l : List Oper} {st : St} (h : evOps P all l id st K) : evOps P all (List.drop 0 l) id st K := h

def preA : List Oper → List Oper
  | [] => []
  | o :: l => bif kindA o.op then o :: preA l else []
def sufA : List Oper → List Oper
  | [] => []
  | o :: l => bif kindA o.op then sufA l else o :: l

theorem take_preA : ∀ l : List Oper, l.take (preA l).length = preA l ∧ l.drop (preA l).length = sufA l
  | [] => ⟨rfl, rfl⟩
  | o :: l => by
    obtain ⟨h1, h2⟩ := take_preA l
    simp only [preA, sufA]
    cases kindA o.op
    · exact ⟨rfl, rfl⟩
    · exact ⟨by simp [h1], by simp [h2]⟩

theorem go_pre {o : Oper} {l : List Oper} {st : St} (hk : kindA o.op = true) (h : evOps P all (o :: preA l) id st K) : evOps P all (preA (o :: l)) id st K := by simp only [preA, hk, cond_true]; exact h
theorem go_pre_stop {o : Oper} {l : List Oper} {st : St} (hk : kindA o.op = false) (h : evOps P all [] id st K) : evOps P all (preA (o :: l)) id st K := by simp only [preA, hk, cond_false]; exact h
theorem go_pre_nil {st : St} (h : evOps P all [] id st K) : evOps P all (preA []) id st K := h
theorem go_suf {o : Oper} {l : List Oper} {st : St} (hk : kindA o.op = true) (h : evOps P all (sufA l) id st K) : evOps P all (sufA (o :: l)) id st K := by simp only [sufA, hk, cond_true]; exact h
theorem go_suf_stop {o : Oper} {l : List Oper} {st : St} (hk : kindA o.op = false) (h : evOps P all (o :: l) id st K) : evOps P all (sufA (o :: l)) id st K := by simp only [sufA, hk, cond_false]; exact h
theorem go_suf_nil {st : St} (h : evOps P all [] id st K) : evOps P all (sufA []) id st K := h

/-- Behind the operations whose order is open. -/
def kSuf (P : Program) (l : List Oper) (K : X → St → Prop) : X → St → Prop := onlyN fun st' => evOps P l (sufA l) st'.nx st' K
theorem go_ksuf {l : List Oper} (h : evOps P l (sufA l) nx ⟨env, hp, nx, n⟩ K) : kSuf P l K .normal ⟨env, hp, nx, n⟩ := h

theorem go_order {i : Nat} {l : List Oper} (hc : chkDraw l (preA l).length = true) (hdom : (hp.all fun x => decide (x.1 < nx)) = true) (h : evOps P l (preA l) nx ⟨env, hp, nx, n⟩ (kSuf P l K)) :
    evG E P (.region i l.toArray true) K ⟨env, hp, nx, n⟩ := .inl ⟨(preA l).length, hc, hdom, by rw [(take_preA l).1, (take_preA l).2]; exact h⟩

/-- Behind the first m operations. -/
def kDrop (P : Program) (l : List Oper) (m : Nat) (K : X → St → Prop) : X → St → Prop := onlyN fun st' => evOps P l (l.drop m) st'.nx st' K
theorem go_kdrop {l : List Oper} {m : Nat} (h : evOps P l (l.drop m) nx ⟨env, hp, nx, n⟩ K) : kDrop P l m K .normal ⟨env, hp, nx, n⟩ := h
theorem go_drawM (m : Nat) {i : Nat} {l : List Oper} (hc : chkDraw l m = true) (hdom : (hp.all fun x => decide (x.1 < nx)) = true) (h : evOps P l (l.take m) nx ⟨env, hp, nx, n⟩ (kDrop P l m K)) :
    evG E P (.region i l.toArray true) K ⟨env, hp, nx, n⟩ := .inl ⟨m, hc, hdom, h⟩

def kLineD (P : Program) (l : List Oper) (m : Nat) (zs : List (List Nat)) (K : X → St → Prop) : X → St → Prop := onlyN fun st' => evLine P l m (l.drop m) zs st'.nx st' K
theorem go_klined {l : List Oper} {m : Nat} {zs : List (List Nat)} (h : evLine P l m (l.drop m) zs nx ⟨env, hp, nx, n⟩ K) : kLineD P l m zs K .normal ⟨env, hp, nx, n⟩ := h
theorem go_drawL (m : Nat) (zs : List (List Nat)) {i : Nat} {l : List Oper} (hc : chkDrawL l m zs = true) (hdom : (hp.all fun x => decide (x.1 < nx)) = true) (h : evOps P l (l.take m) nx ⟨env, hp, nx, n⟩ (kLineD P l m zs K)) :
    evG E P (.region i l.toArray true) K ⟨env, hp, nx, n⟩ := .inr (.inl ⟨m, zs, hc, hdom, h⟩)
theorem go_line_drop {l l' : List Oper} {m k : Nat} {o : Oper} {zs : List (List Nat)} {st : St} (h : evLine P l m (List.drop k l') zs id st K) : evLine P l m (List.drop (k + 1) (o :: l')) zs id st K := h
theorem go_line_drop0 {l l' : List Oper} {m : Nat} {zs : List (List Nat)} {st : St} (h : evLine P l m l' zs id st K) : evLine P l m (List.drop 0 l') zs id st K := h
def kLn (P : Program) (l : List Oper) (m : Nat) (rest : List Oper) (zs : List (List Nat)) (z : List Nat) (id : Nat) (K : X → St → Prop) : X → St → Prop := onlyN fun st' => againAll P l st' z ∧ evLine P l m rest zs (id + 32 + 32 * m) st' K
theorem go_line {l rest : List Oper} {m : Nat} {zs : List (List Nat)} {z : List Nat} {dst : Option Tmp} {op : Op} {ty : TypeId} {pos : String} {af : Array Edge} {g : Option (Nat × Bool)} (h : evOp P op id dst ⟨env, hp, nx, n⟩ (kLn P l m rest zs z id K)) :
    evLine P l m ({ dst := dst, op := op, type := ty, pos := pos, after := af, guard := g } :: rest) (z :: zs) id ⟨env, hp, nx, n⟩ K := h
theorem go_kln {l rest : List Oper} {m : Nat} {zs : List (List Nat)} {z : List Nat} (h1 : againAll P l ⟨env, hp, nx, n⟩ z) (h2 : evLine P l m rest zs (id + 32 + 32 * m) ⟨env, hp, nx, n⟩ K) : kLn P l m rest zs z id K .normal ⟨env, hp, nx, n⟩ := ⟨h1, h2⟩
theorem go_line_nil {l : List Oper} {m : Nat} (h : K .normal ⟨env, hp, id, n⟩) : evLine P l m [] [] id ⟨env, hp, nx, n⟩ K := h
theorem go_again_nil {l : List Oper} {st : St} : againAll P l st [] := trivial
theorem go_again {l : List Oper} {st : St} {j : Nat} {z : List Nat} {dst : Option Tmp} {op : Op} {ty : TypeId} {pos : String} {af : Array Edge} {g : Option (Nat × Bool)} (hj : l[j]? = some { dst := dst, op := op, type := ty, pos := pos, after := af, guard := g })
    (h : ∀ id, evOp P op id dst st (kAgain st)) (h2 : againAll P l st z) : againAll P l st (j :: z) := ⟨by unfold again; rw [hj]; exact h, h2⟩
theorem go_kagain {s : Tmp} {d : D} {nx' : Nat} (h : lkE env s = d) : kAgain ⟨env, hp, nx, n⟩ .normal ⟨(s, d) :: env, hp, nx', n⟩ := by
  refine ⟨rfl, rfl, rfl, fun t => ?_⟩
  show (if t = s then d else lkE env t) = _
  split
  · rename_i ht; rw [ht, h]
  · rfl

/-- A slice compared with nil. -/
theorem go_nilcmp {op : Op} {s : Tmp} {bs : List Bool} (h0 : op0 P (evalD env) (lkH hp) op = none) (h1 : op1 P (evalD env) op = none) (h2 : nilB P (evalD env) (lkH hp) op = some bs) (ho : (match op with | .store .. => false | .call _ => false | .build .. => false | _ => true) = true) (hd : okDst n (some s) = true)
    (hk : ∀ b ∈ bs, K .normal ⟨(s, .bool b) :: env, hp, nx, n⟩) : evOp P op id (some s) ⟨env, hp, nx, n⟩ K := by
  unfold evOp
  split <;> first | (cases ho; done) | skip
  rw [h0, h1, h2]
  exact fun b hb => ⟨hd, hk b hb⟩

theorem end_int {rv : ResultVar} {k : IntKind} {a b : Int} (h : resD P ⟨env, hp, nx, n⟩ rv = some (.int k a)) (e : a = b) : finK P [rv] (.ret (.int k b)) .ret ⟨env, hp, nx, n⟩ := e ▸ finK_ret (fin1 h rfl rfl)
theorem end_bool {rv : ResultVar} {a b : Bool} (h : resD P ⟨env, hp, nx, n⟩ rv = some (.bool a)) (e : a = b) : finK P [rv] (.ret (.bool b)) .ret ⟨env, hp, nx, n⟩ := e ▸ finK_ret (fin1 h rfl rfl)
end
end Go.Pv

/- Texts; parts of slices; elements of arrays. -/
namespace Go.Pv

class TStr (P : Program) (t : TypeId) : Prop where u : P.underlying t = some .string

section
variable {P : Program} {K : X → St → Prop} {env : Env} {hp : Hp} {nx n id : Nat} {s : Tmp} {x y : Operand} {t : TypeId}

/-- The first elements of a slice that is not written. -/
theorem go_take_sl {α : Type} {e : TypeId} {k : Nat} {l : List α} {f : α → List D} {ik : IntKind} {i : Int} [hs : TSlice P t e k] (h : evalD env x = .sl (l.map f)) (h2 : evalD env y = .int ik i) (hf : ∀ a, (f a).length = k) (hd : okDst n (some s) = true)
    (hi : 0 ≤ i ∧ i ≤ l.length) (hk : K .normal ⟨(s, .sl ((l.take i.toNat).map f)) :: env, hp, nx, n⟩) : evOp P (.slice t x none (some y) none) id (some s) ⟨env, hp, nx, n⟩ K := by
  rw [evOp_slice]
  refine ⟨.sl ((l.take i.toNat).map f), ?_, hd, hk⟩
  simp only [Option.map_none, Option.map_some, h, h2, sliceD, hs.u, boundD]
  rw [if_pos hi.1]
  simp only [Nat.zero_le, true_and, List.length_map, List.drop_zero]
  rw [if_pos]
  · rw [List.map_take]
  · refine ⟨by omega, by rw [hs.c]; exact hs.p, fun r hr => ?_⟩
    obtain ⟨a, _, rfl⟩ := List.mem_map.1 hr
    rw [hf, hs.c]

end
end Go.Pv

/- Calls of functions that are values. -/
namespace Go.Pv

/-- Handing it over leaves it as it is. -/
def Stab (ys : List D) : Prop := ∀ (hp : Nat → Option Blk) (m : Nat), purL hp (m + 16) ys = some ys

mutual
theorem ren_pure {g : Sg} : ∀ {d : D}, pureD d = true → ren g d = d
  | .os .., h => by simp [pureD] at h
  | .op .., h => by simp [pureD] at h
  | .om _, h => by simp [pureD] at h
  | .agg cs, h => by simp only [ren, renL_pure (ds := cs) (by simpa [pureD] using h)]
  | .tup cs, h => by simp only [ren, renL_pure (ds := cs) (by simpa [pureD] using h)]
  | .clo fn xs ys, h => by
    simp only [pureD, Bool.and_eq_true] at h
    simp only [ren, renL_pure h.1, renL_pure h.2]
  | .iface t d, h => by simp only [ren, ren_pure (d := d) (by simpa [pureD] using h)]
  | .undef, _ | .skip, _ | .int .., _ | .bool _, _ | .str _, _ | .float .., _ | .sl _, _ | .nilsl, _ | .ptr _, _ | .nilptr, _ | .nilfunc, _ | .nilif, _ | .fr .., _ => by simp only [ren]
theorem renL_pure {g : Sg} : ∀ {ds : List D}, pureL ds = true → renL g ds = ds
  | [], _ => rfl
  | d :: ds, h => by
    simp only [pureL, Bool.and_eq_true] at h
    simp only [renL, ren_pure h.1, renL_pure h.2]
end

section
variable {P : Program} {K : X → St → Prop} {env : Env} {hp : Hp} {nx n id : Nat} {s : Tmp} {x y f : Operand} {t : TypeId}

/-- A function value with captured values, called with one argument. -/
theorem go_call_clo {ts : Array TypeId} {g : FuncId} {ys : List D} {d1 r : D} (hf : evalD env f = .clo (.func g) [] ys) (hx : pur (lkH hp) 63 (evalD env x) = some d1) (hst : Stab ys) (hc : Contract P g (d1 :: ys) (.ret r)) (hr : refless r = true) (hw : widR r ≤ 32) (hd : okDst n (some s) = true)
    (h : K .normal ⟨(s, (adopt id r).1) :: env, (adopt id r).2 ++ hp, nx, n⟩) : evOp P (.call { callee := .value f, args := #[x], argTypes := ts }) id (some s) ⟨env, hp, nx, n⟩ K := by
  refine go_call (args := [x]) hf ?_ hc (by rw [hr, Bool.or_true]) hw hd h
  simp only [List.map_cons, List.map_nil, List.nil_append, List.singleton_append, purL, hx, Option.bind_some]
  rw [hst (lkH hp) 47]
  rfl

/-- A call of a named function: its arguments read as such. -/
theorem go_call_fn {args : List Operand} {ts : Array TypeId} {g : FuncId} {args' : List D} {r : D} (hp' : purL (lkH hp) 64 (args.map (evalD env)) = some args') (hc : Contract P g args' (.ret r)) (hr : (pureL (args.map (evalD env)) || refless r) = true) (hw : widR r ≤ 32) (hd : okDst n (some s) = true)
    (h : K .normal ⟨(s, (adopt id r).1) :: env, (adopt id r).2 ++ hp, nx, n⟩) : evOp P (.call { callee := .value (.func g), args := args.toArray, argTypes := ts }) id (some s) ⟨env, hp, nx, n⟩ K :=
  go_call (xs := []) (ys := []) rfl (by simpa using hp') hc (by simpa using hr) hw hd h

theorem go_clo_bool {ts : Array TypeId} {g : FuncId} {ys : List D} {d1 : D} {q : Bool} (hf : evalD env f = .clo (.func g) [] ys) (hx : pur (lkH hp) 63 (evalD env x) = some d1) (hst : Stab ys) (hc : Contract P g (d1 :: ys) (.ret (.bool q))) (hd : okDst n (some s) = true)
    (h : K .normal ⟨(s, .bool q) :: env, hp, nx, n⟩) : evOp P (.call { callee := .value f, args := #[x], argTypes := ts }) id (some s) ⟨env, hp, nx, n⟩ K := go_call_clo hf hx hst hc rfl (Nat.le_of_ble_eq_true rfl) hd h
theorem go_fn_bool {args : List Operand} {ts : Array TypeId} {g : FuncId} {args' : List D} {q : Bool} (hp' : purL (lkH hp) 64 (args.map (evalD env)) = some args') (hc : Contract P g args' (.ret (.bool q))) (hd : okDst n (some s) = true)
    (h : K .normal ⟨(s, .bool q) :: env, hp, nx, n⟩) : evOp P (.call { callee := .value (.func g), args := args.toArray, argTypes := ts }) id (some s) ⟨env, hp, nx, n⟩ K :=
  go_call_fn hp' hc (Bool.or_true _) (Nat.le_of_ble_eq_true rfl) hd h
theorem go_fn_int {args : List Operand} {ts : Array TypeId} {g : FuncId} {args' : List D} {k : IntKind} {q : Int} (hp' : purL (lkH hp) 64 (args.map (evalD env)) = some args') (hc : Contract P g args' (.ret (.int k q))) (hd : okDst n (some s) = true)
    (h : K .normal ⟨(s, .int k q) :: env, hp, nx, n⟩) : evOp P (.call { callee := .value (.func g), args := args.toArray, argTypes := ts }) id (some s) ⟨env, hp, nx, n⟩ K :=
  go_call_fn hp' hc (Bool.or_true _) (Nat.le_of_ble_eq_true rfl) hd h


/-- A whole variable is written: its cells are known. -/
theorem go_store_var {b k : Nat} {v : D} {fl fl' : Bool} {row cs : List D} [hc : TCells P t k] (ha : evalD env x = .op b 0 0) (hb : lkH hp b = some ⟨k, fl, [row]⟩) (hv : evalD env y = v) (hkn : known v = true) (hcs : cellsD v = cs) (hl : cs.length = k) (h1 : cs.all cell1 = true) (hrl : row.length = k)
    (hfl : (fl && cs.all lite) = fl') (hk : K .normal ⟨env, updH b ⟨k, fl', [cs]⟩ hp, nx, n⟩) : evOp P (.store t x y) id none ⟨env, hp, nx, n⟩ K := by
  subst hv hcs
  refine go_store ha rfl hb hkn hl h1 (by simp) (by simp) ?_ hfl hk
  simp only [getRow, List.getD_cons_zero, List.set_cons_zero, List.cons.injEq, and_true]
  unfold spliceL
  simp [hl, hrl]

theorem go_st_agg {b k : Nat} {fl fl' : Bool} {row cs : List D} [hc : TCells P t k] (ha : evalD env x = .op b 0 0) (hb : lkH hp b = some ⟨k, fl, [row]⟩) (hv : evalD env y = .agg cs) (hl : cs.length = k) (h1 : cs.all cell1 = true) (hrl : row.length = k)
    (hfl : (fl && cs.all lite) = fl') (hk : K .normal ⟨env, updH b ⟨k, fl', [cs]⟩ hp, nx, n⟩) : evOp P (.store t x y) id none ⟨env, hp, nx, n⟩ K := go_store_var ha hb hv rfl rfl hl h1 hrl hfl hk
theorem go_bx_agg {cs : List D} {k : Nat} {fl : Bool} (h : evalD env x = .agg cs) (hl : cs.length = k) (h0 : 0 < k) (hfl : cs.all lite = fl) (hd : okDst n (some s) = true) (hk : K .normal ⟨(s, .op id 0 0) :: env, (id, ⟨k, fl, [cs]⟩) :: hp, nx, n⟩) : evOp P (.box t x) id (some s) ⟨env, hp, nx, n⟩ K := by
  subst hl
  exact go_box h rfl rfl h0 (by simpa [flatRows, cellsD] using hfl) hd hk
end
end Go.Pv

/- Contracts of functions that write into one block of their caller's. -/
namespace Go.Pv


/-- Of the state to be kept, block 0 alone is a block of one's own. -/
def Frm.one (S : Frm) : Prop := ∀ b, b ≠ 0 → S.ow b = .pending

/-- The second plain state says no more than the first, and block 0 stays where it is. -/
def EntailsK (st st' : St) : Prop := ∀ (w0 : World) (S : Frm) (a : Act) (w : World), S.one → InvI w0 S st.nx st a w → InvI w0 S st'.nx st' a w

def finM (P : Program) (rv : List ResultVar) (r : D) (blk' : Blk) : X → St → Prop
  | .normal, st => ∃ ds, rv.map (resD P st) = ds.map some ∧ r = tupOf ds ∧ lkH st.hp 0 = some blk'
  | .ret, st => ∃ ds, rv.map (resD P st) = ds.map some ∧ r = tupOf ds ∧ lkH st.hp 0 = some blk'
  | _, _ => False

section
variable {P : Program} {w w' w0 : World}

theorem okO_rezone {pu Q : Nat → Prop} {ow : Nat → Ow} {o : Ow} (ho : ow 0 = o) {v : Value} {d : D} (h : Rep w pu ow v d) (hk : okO d = true) : Rep w Q (owM o) v d := by
  unfold okO at hk
  split at hk
  · rename_i b' off len
    simp only [beq_iff_eq] at hk
    subst hk
    cases h with
    | pure _ _ h => cases h
    | osd a n c _ _ _ hb => exact .osd a n c 0 off len (by rw [← hb, ho]; rfl)
    | ose a _ _ hb => exact .ose a 0 off (by rw [← hb, ho]; rfl)
    | osa a cap _ _ _ g o' k sz hb hl hm => exact .osa a cap 0 off len g o' k sz (by rw [← hb, ho]; rfl) hl hm
  · cases h with
    | pure _ _ h => exact .pure _ _ (scal1_zone h hk)
    | _ => cases hk

theorem finM_core {fn : Func} {S : Frm} {st : St} {a : Act} {w0 : World} (hi : InvI w0 S st.nx st a w) {ds : List D} {r : D} {blk' : Blk} (h1 : fn.results.toList.map (resD P st) = ds.map some) (hr : r = tupOf ds) (hb : lkH st.hp 0 = some blk')
    (hs : scalR blk'.rows = true) (ho : okOut r = true) {o : Ow} (hS : S.ow 0 = o) (hne : o ≠ .pending) :
    a.defers = [] ∧ ∃ v, (results fn a.tmps).run P w = .ok v w ∧ Below w0.heap.size w0 w ∧ (∀ g, S.pu g → w.heap[g]? = S.w.heap[g]?) ∧ BlkOK w (fun _ => False) (owM o) o blk' ∧ Rep w (fun _ => False) (owM o) v r := by
  obtain ⟨pu, ow, hm, he, hbw, hz, hid, hsz, hd⟩ := hi
  have h0 : ow 0 = o := by
    rcases hd.2.2 0 with h | h
    · rw [hS] at h; exact (hne h).elim
    · rw [h, hS]
  obtain ⟨vs, g1, g2, g3⟩ := results_ok (P := P) (fn := fn) hm he h1
  have hblk := hm.blk 0 blk' hb
  rw [h0] at hblk
  refine ⟨hd.1, _, g1, hbw, fun g hg => (hd.2.1 g hg).2, hblk.rezone hs, ?_⟩
  subst hr
  match vs, ds, g2, g3 with
  | [], [], _, _ => exact .tup _ _ rfl fun i v d h => by simp at h
  | [v], [d], _, g3 =>
    have := g3 0 v d rfl rfl
    simp only [tupOf] at ho ⊢
    cases d with
    | tup es =>
      obtain ⟨us, rfl, k1, k2⟩ := this.tup_inv
      exact .tup us es k1 fun i v e hv he => okO_rezone h0 (k2 i v e hv he) (List.all_eq_true.1 ho e (List.mem_of_getElem? he))
    | _ => exact okO_rezone h0 this ho
  | v :: v' :: vs, d :: d' :: ds, g2, g3 =>
    simp only [tupOf, okOut] at ho ⊢
    exact .tup _ _ (by simpa using g2) fun i u e hu he => okO_rezone h0 (g3 i u e (by simpa using hu) he) (List.all_eq_true.1 ho e (List.mem_of_getElem? he))

theorem contractM_of {f : FuncId} {fn : Func} {c : Code} {ds : List D} {blk blk' : Blk} {r : D} (hmix : P.follows .mixedOrders = true) (hf : P.funcs[f]? = some fn) (hb : fn.body = some c) (hname : (fn.name == "runtime.NumGoroutine") = false)
    (hn : ds.length ≤ fn.ntmps) (hna : noAppC c = true) (hs : scalR blk'.rows = true) (ho : okOut r = true)
    (h : evG EntailsK P c (finM P fn.results.toList r blk') ⟨argsE 0 ds, [(0, blk)], 1, fn.ntmps⟩) : ContractM P f ds blk r blk' := by
  refine ⟨⟨fn, hf, by rw [hb]; rfl, hname⟩, hs, ho, fun S w args o hS hO hblk hlen hargs => ?_⟩
  refine calls_of_wp hf hb ?_
  have hne : o ≠ .pending := by rcases hO with rfl | ⟨g, a, k, sz, rfl, _⟩ <;> simp
  have hnd : o ≠ .dead := by rcases hO with rfl | ⟨g, a, k, sz, rfl, _⟩ <;> simp
  let w0 : World := { w with heap := #[] }
  let pu : Nat → Prop := fun g => g < w.heap.size ∧ ∀ a k sz, o ≠ .lies g a k sz
  have hSp : ∀ g, S g → pu g := fun g hg => ⟨hS g hg, fun a k sz e => by
    rcases hO with h | ⟨g', a', k', sz', h, hng⟩
    · rw [h] at e; cases e
    · rw [h] at e; injection e with e; subst e; exact hng hg⟩
  have hext : Ext w S (owM o) w pu (owM o) := ⟨fun g hg => ⟨hSp g hg, rfl⟩, fun _ => .inr (.inl rfl)⟩
  have hi : InvI w0 ⟨fun _ => True, w, pu, owM o⟩ 1 ⟨argsE 0 ds, [(0, blk)], 1, fn.ntmps⟩ { tmps := args ++ Array.replicate (fn.ntmps - args.size) undef, defers := [] } w := by
    refine ⟨pu, owM o, ⟨fun b blk2 hb2 => ?_, fun b hb2 => ?_, fun b b' g h h' => ?_, fun b g h => ?_, fun g hg => hg.1⟩, fun s => ?_, ⟨rfl, rfl, rfl, Nat.zero_le _, fun k hk => absurd hk (Nat.not_lt_zero k), .same rfl⟩, fun g hg => .inl trivial, fun b hb2 => ?_, by simp; omega, rfl, fun g hg => ⟨hg, rfl⟩, fun b => .inr rfl⟩
    · simp only [lkH] at hb2
      split at hb2
      · rename_i h0; subst h0
        injection hb2 with hb2; subst hb2
        exact hblk.mono hext fun _ _ => rfl
      · cases hb2
    · simp only [lkH] at hb2
      split at hb2
      · cases hb2
      · rename_i h0; exact .inr (if_neg h0)
    · unfold owM at h h'
      split at h
      · split at h'
        · rename_i e1 e2; rw [e1, e2]
        · exact h'.elim
      · exact h.elim
    · unfold owM at h
      split at h
      · refine ⟨Nat.zero_le _, fun hp => ?_⟩
        rcases hO with rfl | ⟨g', a', k', sz', rfl, _⟩
        · exact h.elim
        · cases h; exact hp.2 _ _ _ rfl
      · exact h.elim
    · simp only
      rw [lkE_argsE, if_pos (Nat.zero_le _), Nat.sub_zero, Array.getD_eq_getD_getElem?, Array.getElem?_append]
      split
      · rename_i hs
        rw [Array.getElem?_eq_getElem hs, List.getD_eq_getElem?_getD, List.getElem?_eq_getElem (by omega)]
        simp only [Option.getD_some]
        exact (hargs s _ _ (Array.getElem?_eq_getElem hs) (List.getElem?_eq_getElem (by omega))).mono hext
      · rename_i hs
        rw [List.getD_eq_getElem?_getD, List.getElem?_eq_none (by omega)]
        exact .pure _ _ (.undef _)
    · exact if_neg (by omega)
  have hone : Frm.one ⟨fun _ => True, w, pu, owM o⟩ := fun b hb => if_neg hb
  have fin : ∀ {a : Act} {w' : World}, (a.defers = [] ∧ ∃ v, (results fn a.tmps).run P w' = .ok v w' ∧ Below w0.heap.size w0 w' ∧ (∀ g, pu g → w'.heap[g]? = w.heap[g]?) ∧ BlkOK w' (fun _ => False) (owM o) o blk' ∧ Rep w' (fun _ => False) (owM o) v r) →
      a.defers = [] ∧ ∃ v, (results fn a.tmps).run P w' = .ok v w' ∧ ((Below 0 w w' ∧ ∀ g, g < w.heap.size → (∀ a k sz, o ≠ .lies g a k sz) → w'.heap[g]? = w.heap[g]?) ∧ ∃ v', Ending.returned v = .returned v' ∧ BlkOK w' (fun _ => False) (owM o) o blk' ∧ Rep w' (fun _ => False) (owM o) v' r) := by
    rintro a w' ⟨h1, v, h2, h3, h4, h5, h6⟩
    refine ⟨h1, v, h2, ⟨⟨h3.os, h3.tape, h3.output, ?_, fun k hk => absurd hk (Nat.not_lt_zero k), h3.drawn⟩, fun g hg ho => h4 g ⟨hg, ho⟩⟩, v, rfl, h5, h6⟩
    rcases Nat.lt_or_ge w'.heap.size w.heap.size with hlt | hge
    · exfalso
      by_cases hp : ∀ a k sz, o ≠ .lies (w.heap.size - 1) a k sz
      · have := h4 (w.heap.size - 1) ⟨by omega, hp⟩
        rw [Array.getElem?_eq_none (by omega), Array.getElem?_eq_getElem (by omega)] at this
        cases this
      · simp only [Classical.not_forall] at hp
        obtain ⟨a, k, sz, hp⟩ := hp
        have hp := Classical.not_not.1 hp
        rw [hp] at h5
        obtain ⟨_, _, _, _, _, cc, t, h7, _⟩ := h5
        rw [Array.getElem?_eq_none (by omega)] at h7
        cases h7
    · exact hge
  refine wp_mono (evG_ok hmix (fun _ _ _ _ he hi => he _ _ _ _ hone hi) c _ _ _ w (.inr hna) hi h) fun e a w' he => ?_
  cases e with
  | normal =>
    obtain ⟨st, ⟨ds, h1, h2, h3⟩, hi'⟩ := he
    exact fin (finM_core hi' h1 h2 h3 hs ho rfl hne)
  | ret =>
    obtain ⟨st, ⟨ds, h1, h2, h3⟩, hi'⟩ := he
    exact fin (finM_core hi' h1 h2 h3 hs ho rfl hne)
  | panic chain =>
    obtain ⟨d, ⟨st, hk⟩, _⟩ := he
    exact hk.elim
  | exit id => obtain ⟨st, hk, _⟩ := he; exact hk.elim
  | _ => exact he.elim

end
end Go.Pv

/- Arguments read as plain values; a law's frame. -/
namespace Go.Pv


def Zone (w : World) : Nat → Prop := fun g => g < w.heap.size

def CRep (w : World) (cs : List Value) (ds : List D) : Prop := cs.length = ds.length ∧ ∀ (i : Nat) (v : Value) (d : D), cs[i]? = some v → ds[i]? = some d → RepP w (Zone w) v d

/-- What a type's cells read as. -/
structure Reads (P : Program) (t : TypeId) {α : Type} (ok : α → Prop) (f : α → List D) : Prop where
  h : ∀ {H : Type} {enc : TypeId × Value → H} {w : World} {base : Nat} {spare : Nat → Bool} {held : Bool} {fuel : Nat} {cs : List Value} {x : DataW H × List MemPlace},
    DataW.trod enc P w base spare held fuel t cs = some x → ∃ a : α, ok a ∧ CRep w cs (f a)
  k : ∀ a, ok a → (f a).length = P.cellsOf t

section
variable {P : Program} {w : World} {t e : TypeId}

theorem CRep.one {v : Value} {d : D} (h : RepP w (Zone w) v d) : CRep w [v] [d] := ⟨rfl, fun i v' d' h1 h2 => by
  cases i with
  | zero => simp at h1 h2; subst h1 h2; exact h
  | succ i => simp at h1⟩

theorem Reads.map {α β : Type} {ok : α → Prop} {f : α → List D} {ok' : β → Prop} {f' : β → List D} (h : Reads P t ok f) (g : α → β) (hf : ∀ a, ok a → f' (g a) = f a) (hok : ∀ a, ok a → ok' (g a)) (hk : ∀ b, ok' b → (f' b).length = P.cellsOf t) : Reads P t ok' f' :=
  ⟨fun h' => by obtain ⟨a, h1, h2⟩ := h.h h'; exact ⟨g a, hok a h1, by rw [hf a h1]; exact h2⟩, hk⟩

theorem reads_int {k : IntKind} (ht : P.underlying t = some (.int k)) (hc : P.cellsOf t = 1) : Reads P t (fun n : Int => (Lit.int k n).wf = true) (fun n => [.int k n]) :=
  ⟨fun h => by obtain ⟨n, rfl, _, hw⟩ := DataW.trod_int ht h; exact ⟨n, hw, .one (.int k n)⟩, fun _ _ => by rw [hc]; rfl⟩

def I64 (n : Int) : Prop := -9223372036854775808 ≤ n ∧ n ≤ 9223372036854775807

theorem reads_i64 (ht : P.underlying t = some (.int .i64)) (hc : P.cellsOf t = 1) : Reads P t I64 (fun n => [.int .i64 n]) :=
  (reads_int ht hc).map id (fun _ _ => rfl) (fun _ h => bounds_i64 h) fun _ _ => by rw [hc]; rfl

theorem list_of {α : Type} {p : Nat → α → Prop} : ∀ {n : Nat}, (∀ i, i < n → ∃ a, p i a) → ∃ l : List α, l.length = n ∧ ∀ i (hi : i < l.length), p i l[i]
  | 0, _ => ⟨[], rfl, fun i hi => by simp at hi⟩
  | n + 1, h => by
    obtain ⟨l, hl, hp⟩ := list_of (n := n) fun i hi => h i (by omega)
    obtain ⟨a, ha⟩ := h n (by omega)
    refine ⟨l ++ [a], by simp [hl], fun i hi => ?_⟩
    rw [List.getElem_append]
    split
    · exact hp i _
    · have : i = n := by simp at hi; omega
      subst this
      simpa using ha

theorem cell_lt {a : Addr} {v : Value} (h : w.cell? a = some v) : a.block < w.heap.size := by
  unfold World.cell? at h
  split at h
  · rename_i hb
    exact (Array.getElem?_eq_some_iff.1 hb).1
  · cases h

theorem add_add' (a : Addr) (m n : Nat) : (a.add m).add n = a.add (m + n) := by
  unfold Addr.add
  by_cases hm : m = 0 <;> by_cases hn : n = 0 <;> simp [hm, hn, Nat.add_assoc]

theorem reads_slice {α : Type} {ok : α → Prop} {f : α → List D} {k : Nat} (ht : P.underlying t = some (.slice e)) (he : Reads P e ok f) (hk : P.cellsOf e = k) (hp : 0 < k) (hc : P.cellsOf t = 1) :
    Reads P t (fun l : List α => l.length ≤ maxLen ∧ ∀ a ∈ l, ok a) (fun l => [.sl (l.map f)]) := by
  refine ⟨fun {H enc w base spare held fuel cs x} h => ?_, fun _ _ => by rw [hc]; rfl⟩
  rcases DataW.trod_slice ht h with ⟨rfl, _⟩ | ⟨a, len, cap, elems, rest, n, _, rfl, _, hb, hl, hm, hlen, hel, _, _⟩
  · refine ⟨[], ⟨Nat.zero_le _, by simp⟩, .one ?_⟩
    exact .sl none 0 [] 0 (fun _ _ => .bool false) (Nat.le_refl _) (by simp) (by simp) fun i j d hd => by simp [cellAt] at hd
  · have hex : ∀ i, i < len → ∃ a' : α, ok a' ∧ ∃ cs', CRep w cs' (f a') ∧ cs'.length = k ∧ ∀ j, j < k → w.cell? (a.add (i * k + j)) = cs'[j]? := fun i hi => by
      have h1 := hel i hi
      have hi' : i < elems.length := by omega
      rw [List.getElem?_eq_getElem hi'] at h1
      obtain ⟨cs', h2, h3⟩ := Option.bind_eq_some_iff.1 h1
      obtain ⟨a', h4, h5⟩ := he.h h3
      obtain ⟨_, h6, h7⟩ := World.cells?_some h2
      refine ⟨a', h4, cs', h5, h6.trans hk, fun j hj => ?_⟩
      rw [← h7 j (by omega), hk, add_add']
    obtain ⟨l, hll, hl'⟩ := list_of hex
    refine ⟨l, ⟨by omega, fun a' ha => ?_⟩, .one ?_⟩
    · obtain ⟨i, hi, rfl⟩ := List.mem_iff_getElem.1 ha
      exact (hl' i hi).1
    · have hlen' : len = (l.map f).length := by simp [hll]
      rw [hlen']
      refine .sl (some a) cap (l.map f) k (fun i j => (w.cell? (a.add (i * k + j))).getD undef) (by omega) (fun r hr => ?_) (fun hne => ?_) fun i j d hd => ?_
      · obtain ⟨a', ha, rfl⟩ := List.mem_map.1 hr
        obtain ⟨i, hi, rfl⟩ := List.mem_iff_getElem.1 ha
        exact (he.k _ (hl' i hi).1).trans hk
      · have h0 : 0 < l.length := by
          cases l with
          | nil => simp at hne
          | cons _ _ => simp
        have hcell : ∀ i j, i < l.length → j < k → ∃ v, w.cell? (a.add (i * k + j)) = some v := fun i j hi hj => by
          obtain ⟨_, cs', _, h2, h3⟩ := hl' i hi
          exact ⟨cs'[j]'(by omega), by rw [h3 j hj, List.getElem?_eq_getElem]⟩
        obtain ⟨v0, hv0⟩ := hcell 0 0 h0 hp
        have hsp : a.spot = none := by simpa [Addr.add] using World.cell?_spot hv0
        obtain ⟨b, off, sp⟩ := a
        simp only at hsp
        subst hsp
        refine ⟨b, off, rfl, ?_, fun i j hi hj => ?_⟩
        · have := cell_lt hv0
          simpa [Addr.add, Zone] using this
        · obtain ⟨v, hv⟩ := hcell i j (by simpa using hi) hj
          rw [hv]
          rw [Addr.add_spotless] at hv
          rw [Nat.add_assoc, hv]
          rfl
      · unfold cellAt at hd
        obtain ⟨r, hr, hj⟩ := Option.bind_eq_some_iff.1 hd
        rw [List.getElem?_map, Option.map_eq_some_iff] at hr
        obtain ⟨a', ha, rfl⟩ := hr
        obtain ⟨hi, rfl⟩ := List.getElem?_eq_some_iff.1 ha
        obtain ⟨hok, cs', ⟨h1, h2⟩, h3, h4⟩ := hl' i hi
        have hjk : j < k := by
          have := (List.getElem?_eq_some_iff.1 hj).1
          rw [he.k _ hok, hk] at this
          exact this
        rw [h4 j hjk]
        have hv : cs'[j]? = some (cs'[j]'(by omega)) := List.getElem?_eq_getElem _
        rw [hv]
        exact h2 j _ d hv hj

/-- The fields of a struct from a place on. -/
structure ReadsF (P : Program) (fs : List Field) (o total : Nat) {α : Type} (ok : α → Prop) (f : α → List D) : Prop where
  k : ∀ a, ok a → (f a).length = total
  h : ∀ {H : Type} {enc : TypeId × Value → H} {w : World} {base : Nat} {spare : Nat → Bool} {held : Bool} {n : Nat} {cs : List Value},
    (∀ (i : Nat) (fd : Field), fs[i]? = some fd → ∃ y, DataW.trod enc P w base spare held n fd.type ((cs.drop fd.offset).take (P.cellsOf fd.type)) = some y) → o + total ≤ cs.length →
      ∃ a : α, ok a ∧ CRep w ((cs.drop o).take total) (f a)

theorem readsF_nil {o : Nat} : ReadsF P [] o 0 (fun _ : Unit => True) (fun _ => []) := ⟨fun _ _ => rfl, fun _ _ => ⟨(), trivial, by simp, fun i v d h1 h2 => by simp at h2⟩⟩

theorem readsF_cons {α β : Type} {fd : Field} {fs : List Field} {o k total : Nat} {ok : α → Prop} {f : α → List D} {ok' : β → Prop} {f' : β → List D} (h1 : Reads P fd.type ok f) (hk : P.cellsOf fd.type = k) (ho : fd.offset = o) (h2 : ReadsF P fs (o + k) total ok' f') :
    ReadsF P (fd :: fs) o (k + total) (fun x : α × β => ok x.1 ∧ ok' x.2) (fun x => f x.1 ++ f' x.2) := by
  refine ⟨fun a ha => by rw [List.length_append, h1.k _ ha.1, h2.k _ ha.2, hk], fun {H enc w base spare held n cs} h hl => ?_⟩
  obtain ⟨y, hy⟩ := h 0 fd rfl
  obtain ⟨a, ha, hca⟩ := h1.h hy
  obtain ⟨b, hb, hcb⟩ := h2.h (cs := cs) (fun i fd hi => h (i + 1) fd (by simpa using hi)) (by omega)
  refine ⟨(a, b), ⟨ha, hb⟩, ?_⟩
  have e : (cs.drop o).take (k + total) = (cs.drop o).take k ++ (cs.drop (o + k)).take total := by
    rw [List.take_add, List.drop_drop]
  rw [e]
  rw [ho, hk] at hca
  have hl1 : ((cs.drop o).take k).length = (f a).length := hca.1
  refine ⟨by simp only [List.length_append, hca.1, hcb.1], fun i v d e1 e2 => ?_⟩
  simp only at e2
  rw [List.getElem?_append] at e1 e2
  rw [hl1] at e1
  split at e1
  · rename_i hi
    rw [if_pos hi] at e2
    exact hca.2 i v d e1 e2
  · rename_i hi
    rw [if_neg hi] at e2
    exact hcb.2 _ v d e1 e2

theorem reads_struct {α : Type} {fs : Array Field} {total : Nat} {ok : α → Prop} {f : α → List D} (ht : P.underlying t = some (.struct fs)) (hc : P.cellsOf t = total) (h : ReadsF P fs.toList 0 total ok f) : Reads P t ok f := by
  refine ⟨fun {H enc w base spare held fuel cs x} hx => ?_, fun a ha => (h.k a ha).trans hc.symm⟩
  obtain ⟨xs, n, _, _, hl, hxs, hf⟩ := DataW.trod_struct ht hx
  rw [hc] at hl
  obtain ⟨a, ha, hr⟩ := h.h (cs := cs) (fun i fd hi => by
    have hi' : fs[i]? = some fd := by rw [← Array.getElem?_toList]; exact hi
    have hlt : i < xs.length := by rw [hxs]; exact (Array.getElem?_eq_some_iff.1 hi').1
    exact ⟨_, (hf i fd hi').trans (List.getElem?_eq_getElem hlt)⟩) (by omega)
  refine ⟨a, ha, ?_⟩
  rw [List.drop_zero, ← hl, List.take_length] at hr
  exact hr

/-- The values of parameters. -/
structure ReadsA (P : Program) (ts : List TypeId) {α : Type} (ok : α → Prop) (f : α → List D) : Prop where
  h : ∀ {H : Type} {enc : TypeId × Value → H} {w : World} {base : Nat} {args : List Value} {ds : List (DataW H)} {p : List MemPlace}, (∀ (j : Nat) t v, ts[j]? = some t → args[j]? = some v → Value.okWide P w .any base t v) →
    DataW.TrodAll enc P w 0 (fun _ => true) true ts args ds p → ∃ a : α, ok a ∧ CRep w args (f a)

theorem readsA_nil : ReadsA P [] (fun _ : Unit => True) (fun _ => []) := ⟨fun {H enc w base args ds p} _ h => by
  obtain ⟨rfl, _⟩ : args = [] ∧ True := by
    cases args with
    | nil => exact ⟨rfl, trivial⟩
    | cons _ _ => exact h.elim
  exact ⟨(), trivial, rfl, fun i v d h1 h2 => by simp at h1⟩⟩

def oneCell (d : TypeDesc) : Bool := match d with
  | .int _ | .bool | .string | .slice _ => true
  | _ => false
def manyCells (d : TypeDesc) : Bool := match d with
  | .struct _ | .array _ _ => true
  | _ => false

theorem cells_one {u : TypeDesc} {v : Value} {base : Nat} (hu : P.underlying t = some u) (ho : oneCell u = true) (hv : Value.okWide P w .any base t v) : v.cells = #[v] := by
  cases v with
  | agg cs =>
    unfold Value.okWide at hv
    rw [hu] at hv
    cases u <;> first | (cases ho; done) | skip
    all_goals
      unfold Cell.okWide Cell.ok at hv
      rw [hu] at hv
      exact hv.elim
  | _ => rfl

theorem readsA_cons {α β : Type} {ts : List TypeId} {u : TypeDesc} {ok : α → Prop} {f : α → List D} {g : α → D} {ok' : β → Prop} {f' : β → List D} (hu : P.underlying t = some u)
    (h1 : Reads P t ok f) (ho : (oneCell u = true ∧ ∀ a, f a = [g a]) ∨ (manyCells u = true ∧ ∀ a, g a = .agg (f a))) (h2 : ReadsA P ts ok' f') :
    ReadsA P (t :: ts) (fun x : α × β => ok x.1 ∧ ok' x.2) (fun x => g x.1 :: f' x.2) := by
  refine ⟨fun {H enc w base args ds p} hok h => ?_⟩
  match args, ds, p, h with
  | [], [], _, h => exact h.elim
  | [], _ :: _, _, h => exact h.elim
  | _ :: _, [], _, h => exact h.elim
  | v :: vs, d :: ds, _, ⟨p1, q1, ⟨fuel, ht⟩, hr, _⟩ =>
    obtain ⟨a, ha, hca⟩ := h1.h ht
    obtain ⟨b, hb, hcb⟩ := h2.h (args := vs) (fun j t v h1 h2 => hok (j + 1) t v (by simpa using h1) (by simpa using h2)) hr
    have hv := hok 0 t v rfl rfl
    have hrep : RepP w (Zone w) v (g a) := by
      rcases ho with ⟨h1, hg⟩ | ⟨h1, hg⟩
      · rw [cells_one hu h1 hv, hg] at hca
        exact hca.2 0 v (g a) rfl rfl
      · unfold Value.okWide at hv
        rw [hu] at hv
        cases u <;> first | (cases h1; done) | skip
        all_goals
          obtain ⟨cs, rfl, _, _⟩ := hv
          rw [hg]
          refine .agg cs _ (by simpa [Value.cells] using hca.1) fun i v d e1 e2 => hca.2 i v d (by simpa [Value.cells] using e1) e2
    refine ⟨(a, b), ⟨ha, hb⟩, by simp [hcb.1], fun i v' d' e1 e2 => ?_⟩
    cases i with
    | zero => simp at e1 e2; subst e1 e2; exact hrep
    | succ i => exact hcb.2 i v' d' (by simpa using e1) (by simpa using e2)

theorem ReadsA.map {α β : Type} {ts : List TypeId} {ok : α → Prop} {f : α → List D} {ok' : β → Prop} {f' : β → List D} (h : ReadsA P ts ok f) (g : α → β) (hf : ∀ a, ok a → f' (g a) = f a) (hok : ∀ a, ok a → ok' (g a)) : ReadsA P ts ok' f' :=
  ⟨fun h1 h2 => by obtain ⟨a, h3, h4⟩ := h.h h1 h2; exact ⟨g a, hok a h3, by rw [hf a h3]; exact h4⟩⟩

theorem trodAll_stay {H : Type} {enc : TypeId × Value → H} {W W' : World} (hl : laidOutB P = true) (hb : Below W.heap.size W W') : ∀ {ts : List TypeId} {vs : List Value} {ds : List (DataW H)} {ps : List MemPlace},
    (ts.all fun t => P.readableRec t && decide (t < P.types.size)) = true → DataW.TrodAll enc P W 0 (fun _ => true) true ts vs ds ps → DataW.TrodAll enc P W' 0 (fun b => decide (b < W.heap.size)) true ts vs ds ps
  | [], [], [], _, _, h => h
  | t :: ts, v :: vs, d :: ds, _, hr, ⟨p, q, h1, h2, e⟩ => by
    simp only [List.all_cons, Bool.and_eq_true, decide_eq_true_eq] at hr
    have hlt : ∀ x ∈ p, x.block < W.heap.size := by obtain ⟨m, hm⟩ := h1; exact DataW.trod_lt m _ _ _ hm
    exact ⟨p, q, Go.RowKit.Below.trod hl hr.1.1 hr.1.2 h1 hb.kit hlt, trodAll_stay hl hb hr.2 h2, e⟩
  | [], [], _ :: _, _, _, h => h.elim
  | [], _ :: _, _, _, _, h => h.elim
  | _ :: _, [], _, _, _, h => h.elim
  | _ :: _, _ :: _, [], _, _, h => h.elim

theorem trodAll_len {H : Type} {enc : TypeId × Value → H} {W : World} {base : Nat} {sp : Nat → Bool} {held : Bool} : ∀ {ts : List TypeId} {vs : List Value} {ds : List (DataW H)} {ps : List MemPlace}, DataW.TrodAll enc P W base sp held ts vs ds ps → ds.length = ts.length
  | [], [], [], _, _ => rfl
  | _ :: _, _ :: _, _ :: _, _, ⟨_, _, _, h, _⟩ => by simp [trodAll_len h]
  | [], [], _ :: _, _, h => h.elim
  | [], _ :: _, _, _, h => h.elim
  | _ :: _, [], _, _, h => h.elim
  | _ :: _, _ :: _, [], _, h => h.elim

/-- A law: whatever its arguments read as, it returns true and leaves memory as it was. -/
theorem law_frame {H : Type} {enc : TypeId × Value → H} {α : Type} {ok : α → Prop} {f' : α → List D} {f : FuncId} {fn : Func} {s : ChangeSpec} {tb : TypeId} (hvars : s.vars = []) (hR : ReadsA P fn.params.toList ok f')
    (hs : ∀ ds : List (DataW H), ds.length = fn.params.toList.length → s.fn H ds = { results := [.lit (.bool true)], args := ds })
    (hres : fn.resultTypes = #[tb]) (hb : P.underlying tb = some .bool) (hl : laidOutB P = true) (hrec : (fn.params.toList.all fun t => P.readableRec t && decide (t < P.types.size)) = true)
    (con : ∀ a, ok a → Contract P f (f' a) (.ret (.bool true))) (W : World) (base : Nat) (args : Array Value) (ds gs : List (DataW H)) (before : List MemPlace)
    (hval : ∀ (j : Nat) t v, fn.params[j]? = some t → args[j]? = some v → Value.okWide P W .any base t v)
    (hW : DataW.Whole enc P fn.params.toList s.vars false W args.toList ds gs before) : Calls P f args W fun e W' => ∃ v, e = .returned v ∧ s.post enc P fn false true false false W args v W' := by
  have hW' := hW
  obtain ⟨p, q, hA, hV, rfl, _, _⟩ := hW
  obtain ⟨a, ha, hrep⟩ := hR.h (fun j t v h1 h2 => hval j t v (by simpa using h1) (by simpa using h2)) hA
  refine ((con a ha).2 (Zone W) W args (fun g hg => hg) ⟨by simpa using hrep.1, fun i v d h1 h2 => hrep.2 i v d (by simpa using h1) h2⟩).mono fun e W' ⟨hbel, Q, hQ, v, he, hr⟩ => ?_
  subst he
  obtain ⟨ow, _, hv, _⟩ := hr 0
  obtain rfl := hv.bool_inv
  have hgs : gs = [] ∧ q = [] := by
    rw [hvars] at hV
    cases gs with
    | nil => exact ⟨rfl, hV⟩
    | cons _ _ => exact hV.elim
  obtain ⟨rfl, rfl⟩ := hgs
  have hfn := hs ds (trodAll_len hA)
  refine ⟨_, rfl, ds, [], p ++ [], [], p, [], hW', ?_, ?_, ?_, hbel.kit.frame _, fun h => by cases h⟩
  · rw [List.append_nil, hfn, hres]
    exact ⟨[], [], Go.RowKit.shut_bool hb true, rfl, rfl⟩
  · rw [List.append_nil, hfn]
    exact trodAll_stay hl hbel hrec hA
  · rw [List.append_nil, hfn, hvars]
    rfl

end
end Go.Pv

/- Calls with several results; division. -/
namespace Go.Pv

/-- Results that lead to no memory. -/
def plainE : D → Bool
  | .agg cs => cs.all scal1
  | d => scal1 d
theorem plain_adL : ∀ {cs : List D} {n : Nat}, cs.all scal1 = true → adL n cs = (cs, [])
  | [], _, _ => rfl
  | c :: cs, n, h => by
    simp only [List.all_cons, Bool.and_eq_true] at h
    have hc : adC n c = (c, []) := by cases c <;> first | rfl | (exact absurd h.1 (by simp [scal1]))
    simp only [adL, hc, plain_adL h.2, List.nil_append]

theorem plain_adE {d : D} {n : Nat} (h : plainE d = true) : adE n d = (d, []) := by
  cases d with
  | agg cs => simp only [adE, plain_adL (cs := cs) h]
  | _ => first | rfl | (exact absurd h (by simp [plainE, scal1]))

theorem plain_reflC {d : D} (h : scal1 d = true) : reflC d = true := by
  cases d <;> first | (cases h; done) | rfl
theorem plain_reflE {d : D} (h : plainE d = true) : reflE d = true := by
  cases d with
  | agg cs =>
    simp only [plainE, List.all_eq_true] at h
    simp only [reflE, List.all_eq_true]
    exact fun c hc => plain_reflC (h c hc)
  | _ => first | rfl | (exact absurd h (by simp [plainE, scal1]))

class TEq (P : Program) (t : TypeId) (ks : outParam (List Kd)) : Prop where h : eqOK P t = some ks
class TArr (P : Program) (t : TypeId) (len : outParam Nat) (k : outParam Nat) : Prop where h : ∃ e, P.underlying t = some (.array len e) ∧ P.cellsOf e = k ∧ 0 < k

section
variable {P : Program} {K : X → St → Prop} {env : Env} {hp : Hp} {nx n id : Nat} {s : Tmp} {x y f : Operand} {t t' : TypeId}

theorem go_rem_pos {a b : Int} (h1 : evalD env x = .int .i64 a) (h2 : evalD env y = .int .i64 b) (hd : okDst n (some s) = true) (hr : 0 ≤ a ∧ 0 < b) (hk : K .normal ⟨(s, (.int .i64 (a % b))) :: env, hp, nx, n⟩) :
    evOp P (.binOp .rem t x y t') id (some s) ⟨env, hp, nx, n⟩ K := go_rem h1 h2 hd (by omega) (by rw [Int.tmod_eq_emod_of_nonneg hr.1]; exact hk)

theorem go_bs0 {e k : Nat} [hs : TSlice P t e k] (hd : okDst n (some s) = true) (hk : K .normal ⟨(s, .os id 0 0) :: env, (id, ⟨0, true, []⟩) :: hp, nx, n⟩) : evOp P (.buildSlice t 0 #[]) id (some s) ⟨env, hp, nx, n⟩ K := by
  have h1 : op1 P (evalD env) (.buildSlice t 0 #[]) = some (false, ⟨0, true, []⟩) := by
    simp only [op1, hs.u, if_true]
    rw [if_pos ⟨rfl, by rw [hs.c]; exact hs.p⟩]
  unfold evOp
  simp only [op0, h1]
  exact ⟨hd, hk⟩

theorem go_bs1 {e k : Nat} {z v : D} {cs : List D} {fl : Bool} [hs : TSlice P t e k] [hz : TZero P e z] (h : evalD env x = v) (hkn : known v = true) (hcs : cellsD v = cs) (hzl : (cellsD z).length = k) (hl : cs.length = k) (hfl : cs.all lite = fl) (hsm : k ≤ 16777216) (hd : okDst n (some s) = true)
    (hk : K .normal ⟨(s, .os id 0 1) :: env, (id, ⟨k, fl, [cs]⟩) :: hp, nx, n⟩) : evOp P (.buildSlice t 1 #[(0, x)]) id (some s) ⟨env, hp, nx, n⟩ K := by
  subst h hcs hfl
  have h1 : op1 P (evalD env) (.buildSlice t 1 #[(0, x)]) = some (false, ⟨k, (cellsD (evalD env x)).all lite, [cellsD (evalD env x)]⟩) := by
    simp only [op1, hs.u, hz.h, Option.bind_some]
    rw [if_neg (by decide), if_pos ⟨hz.k, by rw [hzl, hs.c], by rw [hs.c]; exact hs.p, by rw [hs.c]; omega⟩]
    simp only [List.map_cons, List.map_nil, fillRows, List.replicate, List.length_cons, List.length_nil]
    rw [if_pos ⟨hkn, by rw [hl, hs.c], by omega⟩]
    simp [hs.c, flatRows]
  unfold evOp
  simp only [op0, h1]
  exact ⟨hd, hk⟩

theorem go_bs2 {e k : Nat} {z v v' : D} {cs cs' : List D} {fl : Bool} [hs : TSlice P t e k] [hz : TZero P e z] (h : evalD env x = v) (h' : evalD env y = v') (hkn : known v = true) (hkn' : known v' = true) (hcs : cellsD v = cs) (hcs' : cellsD v' = cs') (hzl : (cellsD z).length = k) (hl : cs.length = k) (hl' : cs'.length = k)
    (hfl : (cs.all lite && cs'.all lite) = fl) (hsm : k ≤ 1000000) (hd : okDst n (some s) = true)
    (hk : K .normal ⟨(s, .os id 0 2) :: env, (id, ⟨k, fl, [cs, cs']⟩) :: hp, nx, n⟩) : evOp P (.buildSlice t 2 #[(0, x), (1, y)]) id (some s) ⟨env, hp, nx, n⟩ K := by
  subst h hcs h' hcs' hfl
  have h1 : op1 P (evalD env) (.buildSlice t 2 #[(0, x), (1, y)]) = some (false, ⟨k, (cellsD (evalD env x)).all lite && (cellsD (evalD env y)).all lite, [cellsD (evalD env x), cellsD (evalD env y)]⟩) := by
    simp only [op1, hs.u, hz.h, Option.bind_some]
    rw [if_neg (by decide), if_pos ⟨hz.k, by rw [hzl, hs.c], by rw [hs.c]; exact hs.p, by rw [hs.c]; omega⟩]
    simp only [List.map_cons, List.map_nil, fillRows, List.replicate, List.length_cons, List.length_nil, List.length_set]
    rw [if_pos ⟨hkn, by rw [hl, hs.c], by omega⟩, if_pos ⟨hkn', by rw [hl', hs.c], by omega⟩]
    simp [hs.c, flatRows]
  unfold evOp
  simp only [op0, h1]
  exact ⟨hd, hk⟩

theorem go_bs1_agg {e k : Nat} {z : D} {cs : List D} {fl : Bool} [hs : TSlice P t e k] [hz : TZero P e z] (h : evalD env x = .agg cs) (hzl : (cellsD z).length = k) (hl : cs.length = k) (hfl : cs.all lite = fl) (hsm : Nat.ble k 16777216 = true) (hd : okDst n (some s) = true)
    (hk : K .normal ⟨(s, .os id 0 1) :: env, (id, ⟨k, fl, [cs]⟩) :: hp, nx, n⟩) : evOp P (.buildSlice t 1 #[(0, x)]) id (some s) ⟨env, hp, nx, n⟩ K := go_bs1 h rfl rfl hzl hl hfl (Nat.le_of_ble_eq_true hsm) hd hk
theorem go_bs2_int {e : Nat} {z : D} {k k' : IntKind} {a a' : Int} [hs : TSlice P t e 1] [hz : TZero P e z] (h : evalD env x = .int k a) (h' : evalD env y = .int k' a') (hzl : (cellsD z).length = 1) (hd : okDst n (some s) = true)
    (hk : K .normal ⟨(s, .os id 0 2) :: env, (id, ⟨1, true, [[.int k a], [.int k' a']]⟩) :: hp, nx, n⟩) : evOp P (.buildSlice t 2 #[(0, x), (1, y)]) id (some s) ⟨env, hp, nx, n⟩ K := go_bs2 h h' rfl rfl rfl rfl hzl rfl rfl rfl (by omega) hd hk
theorem pur_scal {h : Nat → Option Blk} {m : Nat} {d : D} (hs : scal1 d = true) : pur h (m + 1) d = some d := by
  cases d <;> first | (cases hs; done) | rfl
/-- A whole variable is read. -/
theorem go_ld_agg {b k : Nat} {fl : Bool} {row : List D} [hs : TSh P t (.many k)] (h : evalD env x = .op b 0 0) (hb : lkH hp b = some ⟨k, fl, [row]⟩) (hl : row.length = k) (hd : okDst n (some s) = true) (hk : K .normal ⟨(s, .agg row) :: env, hp, nx, n⟩) : evOp P (.load t x) id (some s) ⟨env, hp, nx, n⟩ K := by
  refine go_load_own (sh' := .many k) h hb ?_ hd hk
  simp only [fromCells, getRow, List.getD_cons_zero, List.drop_zero]
  rw [if_pos (by omega), ← hl, List.take_length]
theorem go_index_nat {α : Type} {e : TypeId} {k : Nat} {l : List α} {f : α → List D} {ik : IntKind} {j : Int} {i : Nat} [hs : TSlice P t e k] (h : evalD env x = .sl (l.map f)) (h2 : evalD env y = .int ik j) (hj : j = (i : Int)) (hk : ∀ a, (f a).length = k) (hd : okDst n (some s) = true)
    (hi : i < l.length) (hc : ∀ (hlt : i < l.length), K .normal ⟨(s, (.ptr (f l[i]))) :: env, hp, nx, n⟩) : evOp P (.indexAddr t x y) id (some s) ⟨env, hp, nx, n⟩ K := by
  subst hj
  exact go_index h h2 hk hd (by omega) fun hlt => by simpa only [Int.toNat_natCast] using hc hi

theorem go_ld_ptr {cs : List D} {k : Nat} [hs : TSh P t (.many k)] (h : evalD env x = .ptr cs) (hl : cs.length = k) (hd : okDst n (some s) = true) (hk : K .normal ⟨(s, .agg cs) :: env, hp, nx, n⟩) : evOp P (.load t x) id (some s) ⟨env, hp, nx, n⟩ K := by
  refine go_load (sh' := .many k) h ?_ hd hk
  simp only [fromCells]
  rw [if_pos (by omega), ← hl, List.take_length]

/-- Rows of single values. -/
def ScalF {α : Type} (f : α → List D) (k : Nat) : Prop := ∀ a, (f a).length = k ∧ (f a).all scal1 = true

theorem scal1_lite {d : D} (h : scal1 d = true) : lite d = true := by cases d <;> first | (cases h; done) | rfl
theorem scal1_ment {d : D} {b : Nat} (h : scal1 d = true) : ment b d = false := by cases d <;> first | (cases h; done) | rfl
theorem flat_map {α : Type} {f : α → List D} {k : Nat} (hf : ScalF f k) (l : List α) : flatRows (l.map f) = true := by
  simp only [flatRows, List.all_map, List.all_eq_true, Function.comp]
  exact fun a _ c hc => scal1_lite (List.all_eq_true.1 (hf a).2 c hc)
theorem scalR_map {α : Type} {f : α → List D} {k : Nat} (hf : ScalF f k) (l : List α) : scalR (l.map f) = true := by
  simp only [scalR, List.all_map, List.all_eq_true, Function.comp]
  exact fun a _ c hc => List.all_eq_true.1 (hf a).2 c hc

/-- A list of one's own, one element longer. -/
theorem go_app_map {α : Type} {f : α → List D} {e k b b2 len : Nat} {l : List α} {a : α} {fl2 : Bool} [hs : TSlice P t e k] (hf : ScalF f k) (h1 : evalD env x = .os b 0 len) (h2 : evalD env y = .os b2 0 1) (hb : lkH hp b = some ⟨k, true, l.map f⟩) (hlen : l.length = len) (hb2 : lkH hp b2 = some ⟨k, fl2, [f a]⟩)
    (hc1 : ((f a).all cell1) = true) (hz : zeroOK P e = true) (hby : Nat.ble (P.bytesOf e) 4096 = true) (hn : len ≤ 1000000000) (hd : okDst n (some s) = true)
    (hk : K .normal ⟨(s, .os b 0 (len + 1)) :: purgeE b env, (b, ⟨k, true, (l ++ [a]).map f⟩) :: purgeH b hp, nx, n⟩) : evOp P (.call { callee := .builtin .append, args := #[x, y], argTypes := #[t, t] }) id (some s) ⟨env, hp, nx, n⟩ K := by
  have hby' : P.bytesOf e ≤ 4096 := Nat.le_of_ble_eq_true hby
  have hap : appendD P (lkH hp) t (evalD env x) (evalD env y) = some (some b, ⟨k, true, (l ++ [a]).map f⟩) := by
    have hx : contentD (lkH hp) (.os b2 0 1) = some [f a] := by simp [contentD, hb2]
    have ho : contentD (lkH hp) (.os b 0 len) = some (l.map f) := by
      simp only [contentD, hb, Option.bind_some]
      rw [if_pos (by simp [hlen])]
      rw [List.drop_zero, List.take_of_length_le (by simp [hlen])]
    unfold appendD
    rw [hs.u, h1, h2]
    simp only [hx, ho, Option.bind_some]
    have hmul : (len + 1) * P.bytesOf e ≤ 140737488355328 := by
      have := Nat.mul_le_mul (show len + 1 ≤ 1000000001 by omega) hby'
      omega
    rw [if_pos]
    · rw [hb]
      simp only [Option.bind_some]
      rw [if_pos]
      · have hft : flatRows [f a] = true := by
          have := flat_map hf [a]
          simpa using this
        simp [hs.c, hft]
      · refine ⟨.inl hs.c.symm, fun r hr c hc => ?_⟩
        have : ∃ a', r = f a' := by
          simp only [List.mem_append, List.mem_map, List.mem_singleton] at hr
          rcases hr with ⟨a', _, rfl⟩ | rfl
          · exact ⟨a', rfl⟩
          · exact ⟨a, rfl⟩
        obtain ⟨a', rfl⟩ := this
        exact scal1_ment (List.all_eq_true.1 (hf a').2 c hc)
    · refine ⟨by rw [hs.c]; exact hs.p, fun r hr => ?_, fun r hr c hc => ?_, by simp [hlen]; exact hmul, by simp [hlen]; omega, hz, by simp [kOK, hb2, hs.c]⟩
      · simp only [List.mem_singleton] at hr
        rw [hr, (hf a).1, hs.c]
      · simp only [List.mem_singleton] at hr
        subst hr
        exact List.all_eq_true.1 hc1 c hc
  refine go_append_on hap hd ?_
  have e : (⟨k, true, (l ++ [a]).map f⟩ : Blk).rows.length = len + 1 := by simp [hlen]
  rw [e]
  exact hk

/-- A call that returns a new list, or one and a single value. -/
theorem go_fn_fr {α : Type} {f : α → List D} {k : Nat} {l : List α} {args : List Operand} {ts : Array TypeId} {g : FuncId} {args' : List D} (hp' : purL (lkH hp) 64 (args.map (evalD env)) = some args') (hc : Contract P g args' (.ret (.fr k (l.map f)))) (hf : ScalF f k) (hd : okDst n (some s) = true)
    (h : K .normal ⟨(s, .os id 0 l.length) :: env, (id, ⟨k, true, l.map f⟩) :: hp, nx, n⟩) : evOp P (.call { callee := .value (.func g), args := args.toArray, argTypes := ts }) id (some s) ⟨env, hp, nx, n⟩ K := by
  refine go_call_fn hp' hc ?_ (by simp [widR, widE]) hd ?_
  · have : refless (.fr k (l.map f)) = true := scalR_map hf l
    rw [this, Bool.or_true]
  · have e : adopt id (.fr k (l.map f)) = (.os id 0 l.length, [(id, ⟨k, true, l.map f⟩)]) := by
      simp [adopt, adE, adC, flat_map hf]
    rw [e]
    exact h
theorem go_fn_fr2 {α : Type} {f : α → List D} {k : Nat} {l : List α} {d2 : D} {args : List Operand} {ts : Array TypeId} {g : FuncId} {args' : List D} (hp' : purL (lkH hp) 64 (args.map (evalD env)) = some args') (hc : Contract P g args' (.ret (.tup [.fr k (l.map f), d2]))) (hf : ScalF f k) (h2 : scal1 d2 = true) (hd : okDst n (some s) = true)
    (h : K .normal ⟨(s, .tup [.os id 0 l.length, d2]) :: env, (id, ⟨k, true, l.map f⟩) :: hp, nx, n⟩) : evOp P (.call { callee := .value (.func g), args := args.toArray, argTypes := ts }) id (some s) ⟨env, hp, nx, n⟩ K := by
  have hw : widE d2 = 1 := by cases d2 <;> first | (cases h2; done) | rfl
  have hr2 : reflE d2 = true := plain_reflE (by cases d2 <;> first | (cases h2; done) | rfl)
  have ha2 : ∀ m, adE m d2 = (d2, []) := fun m => plain_adE (by cases d2 <;> first | (cases h2; done) | rfl)
  refine go_call_fn hp' hc ?_ (by simp [widR, hw]; simp [widE]) hd ?_
  · have : refless (.tup [.fr k (l.map f), d2]) = true := by
      simp only [refless, List.all_cons, List.all_nil, Bool.and_true, hr2]
      exact scalR_map hf l
    rw [this, Bool.or_true]
  · have e : adopt id (.tup [.fr k (l.map f), d2]) = (.tup [.os id 0 l.length, d2], [(id, ⟨k, true, l.map f⟩)]) := by
      simp only [adopt, adT, ha2]
      simp [adE, adC, flat_map hf]
    rw [e]
    exact h

/-- A new list is returned; with a single value. -/
theorem end_fr {α : Type} {f : α → List D} {rv : ResultVar} {b k : Nat} {l l' : List α} (h : resD P ⟨env, hp, nx, n⟩ rv = some (.os b 0 l.length)) (hb : lkH hp b = some ⟨k, true, l.map f⟩) (e : l = l') : finK P [rv] (.ret (.fr k (l'.map f))) .ret ⟨env, hp, nx, n⟩ := by
  subst e
  exact finK_ret (fin1_fr (rows' := l.map f) (by simpa using h) hb (by simp))
theorem fin_fr2 {r1 r2 : ResultVar} {b k len : Nat} {rows : List (List D)} {d2 : D} (h1 : resD P ⟨env, hp, nx, n⟩ r1 = some (.os b 0 len)) (hlen : rows.length = len) (hb : lkH hp b = some ⟨k, true, rows⟩) (h2 : resD P ⟨env, hp, nx, n⟩ r2 = some d2) (hs : scal1 d2 = true) : Fin P [r1, r2] ⟨env, hp, nx, n⟩ (.tup [.fr k rows, d2]) :=
  .inl ⟨[.blk b, .pure], [.os b 0 len, d2], [.fr k rows, d2], by simp [h1, h2], by simp [frsOf], ⟨⟨⟨k, true, rows⟩, rows, by rw [hlen], hb, rfl, by simp⟩, pur_scal (m := 63) hs, trivial⟩, rfl, fun h => by simp at h⟩
theorem fin_nil2 {r1 r2 : ResultVar} {k : Nat} {d2 : D} (h1 : resD P ⟨env, hp, nx, n⟩ r1 = some .nilsl) (h2 : resD P ⟨env, hp, nx, n⟩ r2 = some d2) (hs : scal1 d2 = true) : Fin P [r1, r2] ⟨env, hp, nx, n⟩ (.tup [.fr k [], d2]) :=
  .inl ⟨[.nil, .pure], [.nilsl, d2], [.fr k [], d2], by simp [h1, h2], by simp [frsOf], ⟨⟨rfl, k, rfl⟩, pur_scal (m := 63) hs, trivial⟩, rfl, fun h => by simp at h⟩

theorem go_min {k k' : IntKind} {a b : Int} {ts : Array TypeId} (h1 : evalD env x = .int k a) (h2 : evalD env y = .int k' b) (hd : okDst n (some s) = true) (hk : K .normal ⟨(s, .int k (min a b)) :: env, hp, nx, n⟩) : evOp P (.call { callee := .builtin .min, args := #[x, y], argTypes := ts }) id (some s) ⟨env, hp, nx, n⟩ K := by
  have h := evOp_min (P := P) (K := K) (env := env) (hp := hp) (nx := nx) (n := n) (id := id) (dst := some s) (x := x) (xs := [y]) (ts := ts)
  rw [show (#[x, y] : Array Operand) = (x :: [y]).toArray from rfl, h]
  refine ⟨.int k (min a b), ?_, hd, hk⟩
  simp only [List.map_cons, List.map_nil, foldD, h1, h2, min2D, Option.bind_some, Option.some.injEq, D.int.injEq, true_and]
  omega
theorem go_max {k k' : IntKind} {a b : Int} {ts : Array TypeId} (h1 : evalD env x = .int k a) (h2 : evalD env y = .int k' b) (hd : okDst n (some s) = true) (hk : K .normal ⟨(s, .int k (max a b)) :: env, hp, nx, n⟩) : evOp P (.call { callee := .builtin .max, args := #[x, y], argTypes := ts }) id (some s) ⟨env, hp, nx, n⟩ K := by
  have h := evOp_max (P := P) (K := K) (env := env) (hp := hp) (nx := nx) (n := n) (id := id) (dst := some s) (x := x) (xs := [y]) (ts := ts)
  rw [show (#[x, y] : Array Operand) = (x :: [y]).toArray from rfl, h]
  refine ⟨.int k (max a b), ?_, hd, hk⟩
  simp only [List.map_cons, List.map_nil, foldD, h1, h2, max2D, Option.bind_some, Option.some.injEq, D.int.injEq, true_and]
  omega

/-- A struct of three values. -/
theorem go_bd3 {zs : List D} {d1 d2 d3 : D} {z : Operand} [hl : TLay P t zs [(0, 1), (1, 1), (2, 1)]] (h1 : evalD env x = d1) (h2 : evalD env y = d2) (h3 : evalD env z = d3) (hz : zs.length = 3) (p : (scal1 d1 && scal1 d2 && scal1 d3 && known d1 && known d2 && known d3) = true) (hd : okDst n (some s) = true) (hk : K .normal ⟨(s, .agg [d1, d2, d3]) :: env, hp, nx, n⟩) :
    evOp P (.build t #[(0, x), (1, y), (2, z)]) id (some s) ⟨env, hp, nx, n⟩ K := by
  obtain ⟨z0, z1, z2, rfl⟩ : ∃ z0 z1 z2, zs = [z0, z1, z2] := by
    match zs, hz with
    | [z0, z1, z2], _ => exact ⟨z0, z1, z2, rfl⟩
  simp only [Bool.and_eq_true] at p
  obtain ⟨⟨⟨⟨⟨p1, p2⟩, p3⟩, p4⟩, p5⟩, p6⟩ := p
  have hc : ∀ d, scal1 d = true → cellsD d = [d] := fun d h => by cases d <;> first | (cases h; done) | rfl
  refine go_build (parts := [(0, x), (1, y), (2, z)]) ?_ hd hk
  simp only [List.map_cons, List.map_nil, h1, h2, h3]
  simp only [fillD, List.getElem?_cons_zero, List.getElem?_cons_succ, hc _ p1, hc _ p2, hc _ p3, p4, p5, p6]
  rfl

theorem go_bd3_iii {zs : List D} {k k' k2 : IntKind} {a b c : Int} {z : Operand} [hl : TLay P t zs [(0, 1), (1, 1), (2, 1)]] (h1 : evalD env x = .int k a) (h2 : evalD env y = .int k' b) (h3 : evalD env z = .int k2 c) (hz : zs.length = 3) (hd : okDst n (some s) = true) (hk : K .normal ⟨(s, .agg [.int k a, .int k' b, .int k2 c]) :: env, hp, nx, n⟩) :
    evOp P (.build t #[(0, x), (1, y), (2, z)]) id (some s) ⟨env, hp, nx, n⟩ K := go_bd3 h1 h2 h3 hz rfl hd hk

/-- Structs compared. -/
theorem go_neq_agg {ks : List Kd} {a b : List D} {q : Bool} [he : TEq P t ks] (h1 : evalD env x = .agg a) (h2 : evalD env y = .agg b) (hq : cellsEq ks a b = some q) (hd : okDst n (some s) = true) (hk : K .normal ⟨(s, .bool !q) :: env, hp, nx, n⟩) : evOp P (.binOp .neq t x y t') id (some s) ⟨env, hp, nx, n⟩ K :=
  go_bin (d := .bool !q) (by rw [h1, h2]; simp [binD, he.h, hq]) hd hk
theorem go_eql_agg {ks : List Kd} {a b : List D} {q : Bool} [he : TEq P t ks] (h1 : evalD env x = .agg a) (h2 : evalD env y = .agg b) (hq : cellsEq ks a b = some q) (hd : okDst n (some s) = true) (hk : K .normal ⟨(s, .bool q) :: env, hp, nx, n⟩) : evOp P (.binOp .eql t x y t') id (some s) ⟨env, hp, nx, n⟩ K :=
  go_bin (d := .bool q) (by rw [h1, h2]; simp [binD, he.h, hq]) hd hk

/-- An element of an array of one's own. -/
theorem go_index_arr {len k : Nat} {b row off : Nat} {blk : Blk} {ik : IntKind} {i : Int} [ha : TArr P t len k] (h : evalD env x = .op b row off) (h2 : evalD env y = .int ik i) (hb : lkH hp b = some blk) (hd : okDst n (some s) = true) (hi : 0 ≤ i ∧ i < len)
    (hk : K .normal ⟨(s, .op b row (off + i.toNat * k)) :: env, hp, nx, n⟩) : evOp P (.indexAddr t x y) id (some s) ⟨env, hp, nx, n⟩ K := by
  rw [evOp_indexAddr]
  refine ⟨.op b row (off + i.toNat * k), ?_, hd, hk⟩
  obtain ⟨e, hu, hc, hp0⟩ := ha.h
  rw [h, h2]
  simp only [indexAddrD, hu, hb]
  rw [if_pos ⟨hi.1, hi.2, by omega⟩, hc]

end
end Go.Pv

/- Elements of own lists whose rows are an image. -/
namespace Go.Pv
section
variable {P : Program} {K : X → St → Prop} {env : Env} {hp : Hp} {nx n id : Nat} {s : Tmp} {x y f : Operand} {t t' : TypeId}
theorem getRow_map {α : Type} {l : List α} {f : α → List D} {i : Nat} (hi : i < l.length) : getRow (l.map f) i = f l[i] := by
  simp [getRow, List.getD_eq_getElem?_getD, hi]
theorem go_index_om {α : Type} {e : TypeId} {k k' b len : Nat} {fl : Bool} {l : List α} {f : α → List D} {ik : IntKind} {j : Int} {i : Nat} [hs : TSlice P t e k] (h : evalD env x = .os b 0 len) (h2 : evalD env y = .int ik j) (hb : lkH hp b = some ⟨k', fl, l.map f⟩) (hj : j = (i : Int))
    (hd : okDst n (some s) = true) (hkk : k' = k) (hi : i < len ∧ len ≤ l.length) (hc : ∀ (hlt : i < l.length), K .normal ⟨(s, (.op b i 0)) :: env, hp, nx, n⟩) : evOp P (.indexAddr t x y) id (some s) ⟨env, hp, nx, n⟩ K := by
  subst hj
  refine go_index_own h h2 hb hd hkk ⟨by omega, ?_⟩ ?_
  · show 0 + len ≤ (l.map f).length
    rw [List.length_map]; omega
  · simpa only [Int.toNat_natCast, Nat.zero_add] using hc (by omega)
theorem go_load_om {α : Type} {sh' : Sh} {b i o k : Nat} {fl : Bool} {l : List α} {f : α → List D} {d : D} [hs : TSh P t sh'] (h : evalD env x = .op b i o) (hb : lkH hp b = some ⟨k, fl, l.map f⟩) (hi : i < l.length) (hc : fromCells sh' ((f l[i]).drop o) = some d) (hd : okDst n (some s) = true)
    (hk : K .normal ⟨(s, d) :: env, hp, nx, n⟩) : evOp P (.load t x) id (some s) ⟨env, hp, nx, n⟩ K :=
  go_load_own h hb (by show fromCells sh' ((getRow (l.map f) i).drop o) = some d; rw [getRow_map hi]; exact hc) hd hk
end
end Go.Pv

/- One element appended to a nil list. -/
namespace Go.Pv
section
variable {P : Program} {K : X → St → Prop} {env : Env} {hp : Hp} {nx n id : Nat} {s : Tmp} {x y f : Operand} {t t' : TypeId}
end
end Go.Pv

/- Loops with a measure; parts of own lists; stores into own lists whose rows are an image. -/
namespace Go.Pv
section
variable {P : Program} {E : St → St → Prop} {K : X → St → Prop} {env : Env} {hp : Hp} {nx n id : Nat} {s : Tmp} {x y f : Operand} {t t' : TypeId}

/-- A loop whose states carry a measure that falls. -/
theorem go_while {σ : Type} (μ : σ → Nat) (S : σ → St) (C : σ → Prop) (x0 : σ) {c : Code} {st : St} (he : E st (S x0)) (h0 : C x0)
    (h : ∀ x, C x → evG E P c (kSeq (fun st' => ∃ y, μ y < μ x ∧ C y ∧ E st' (S y)) K) (S x)) : evG E P (.loop c) K st := by
  refine go_loop (fun m s => ∃ x, m = μ x ∧ C x ∧ s = S x) (μ x0) (S x0) he ⟨x0, rfl, h0, rfl⟩ ?_
  rintro m s ⟨x, rfl, hC, rfl⟩
  have := h x hC
  have key : ∀ (c : Code) (f g : St → Prop) (s : St), (∀ st, f st → g st) → evG E P c (kSeq f K) s → evG E P c (kSeq g K) s := fun c f g s hfg => ev_mono c _ _ s fun x st hx => by
    cases x <;> first | exact hfg st hx | exact hx
  refine key c _ _ _ (fun st' ⟨y, h1, h2, h3⟩ => ?_) this
  exact ⟨μ y, S y, h1, h3, y, rfl, h2, rfl⟩

/-- The elements behind the first ones, of a list of one's own. -/
theorem go_drop_os {e : TypeId} {k b off len : Nat} {blk : Blk} {ik : IntKind} {i : Int} [hs : TSlice P t e k] (h : evalD env x = .os b off len) (h2 : evalD env y = .int ik i) (hb : lkH hp b = some blk) (hkk : blk.k = k) (hd : okDst n (some s) = true)
    (hi : 0 ≤ i ∧ i ≤ len) (hk : K .normal ⟨(s, .os b (off + i.toNat) (len - i.toNat)) :: env, hp, nx, n⟩) : evOp P (.slice t x (some y) none none) id (some s) ⟨env, hp, nx, n⟩ K := by
  rw [evOp_slice]
  refine ⟨.os b (off + i.toNat) (len - i.toNat), ?_, hd, hk⟩
  simp only [Option.map_none, Option.map_some, h, h2, sliceD, hs.u, boundD, hb]
  rw [if_pos hi.1]
  simp only []
  rw [if_pos]
  exact ⟨by omega, Nat.le_refl _, by rw [hs.c]; exact hs.p, by rw [hkk, hs.c]⟩

/-- The place of an element of a part of an own list. -/
theorem go_index_oq {α : Type} {e : TypeId} {k k' b off len : Nat} {fl : Bool} {l : List α} {f : α → List D} {ik : IntKind} {j : Int} {i : Nat} [hs : TSlice P t e k] (h : evalD env x = .os b off len) (h2 : evalD env y = .int ik j) (hb : lkH hp b = some ⟨k', fl, l.map f⟩) (hj : j = (i : Int))
    (hd : okDst n (some s) = true) (hkk : k' = k) (hi : i < len ∧ off + len ≤ l.length) (hc : ∀ (_ : off + i < l.length), K .normal ⟨(s, (.op b (off + i) 0)) :: env, hp, nx, n⟩) : evOp P (.indexAddr t x y) id (some s) ⟨env, hp, nx, n⟩ K := by
  subst hj
  refine go_index_own h h2 hb hd hkk ⟨by omega, ?_⟩ ?_
  · show off + len ≤ (l.map f).length
    rw [List.length_map]; omega
  · simpa only [Int.toNat_natCast] using hc (by omega)

/-- A store into an element of an own list, or into a part of it. -/
theorem go_store_om {α : Type} {b i off k k' : Nat} {v : D} {fl : Bool} {l : List α} {f : α → List D} {a : α} [hc : TCells P t k] (ha : evalD env x = .op b i off) (hv : evalD env y = v) (hb : lkH hp b = some ⟨k', fl, l.map f⟩) (hi : i < l.length) (hkn : known v = true) (hl : (cellsD v).length = k) (h1 : (cellsD v).all cell1 = true) (h2 : (cellsD v).all lite = true)
    (hfit : off + k ≤ k') (hs : spliceL (f l[i]) off (cellsD v) = f a) (hk : K .normal ⟨env, updH b ⟨k', fl, (l.set i a).map f⟩ hp, nx, n⟩) :
    evOp P (.store t x y) id none ⟨env, hp, nx, n⟩ K := by
  refine go_store (rows := (l.set i a).map f) (fl := fl) ha hv hb hkn hl h1 hfit (by simpa using hi) ?_ (by simp [h2]) hk
  show (l.map f).set i (spliceL (getRow (l.map f) i) off (cellsD v)) = _
  rw [getRow_map hi, hs, List.map_set]

/-- A new list is returned. -/
theorem end_frn {α : Type} {f : α → List D} {rv : ResultVar} {b k len : Nat} {l l' : List α} (h : resD P ⟨env, hp, nx, n⟩ rv = some (.os b 0 len)) (hb : lkH hp b = some ⟨k, true, l.map f⟩) (hlen : l.length = len) (e : l = l') : finK P [rv] (.ret (.fr k (l'.map f))) .ret ⟨env, hp, nx, n⟩ := by
  subst hlen
  exact end_fr h hb e

theorem pur_os {h : Nat → Option Blk} {b len k m : Nat} {rows : List (List D)} (hb : h b = some ⟨k, true, rows⟩) (hl : rows.length = len) : pur h (m + 1) (.os b 0 len) = some (.sl rows) := by
  simp only [pur, hb, Option.bind_some]
  rw [if_pos (by omega)]
  simp [← hl]
end
end Go.Pv

/- Own lists handed over. -/
namespace Go.Pv
theorem purL_os {h : Nat → Option Blk} {b len k : Nat} {rows : List (List D)} {ds rs : List D} (hb : h b = some ⟨k, true, rows⟩) (hl : rows.length = len) (hr : purL h 63 ds = some rs) : purL h 64 (.os b 0 len :: ds) = some (.sl rows :: rs) := by
  show (pur h 63 _).bind _ = _
  rw [pur_os hb hl]
  simp only [Option.bind_some, hr, Option.map_some]
end Go.Pv

/- A whole list appended to an empty one; lists that are not empty compared with nil. -/
namespace Go.Pv
section
variable {P : Program} {K : X → St → Prop} {env : Env} {hp : Hp} {nx n id : Nat} {s : Tmp} {x y : Operand} {t : TypeId}
theorem go_app_sl {α : Type} {f : α → List D} {e k b : Nat} {l : List α} [hs : TSlice P t e k] (hf : ScalF f k) (h1 : evalD env x = .os b 0 0) (h2 : evalD env y = .sl (l.map f)) (hb : lkH hp b = some ⟨0, true, []⟩)
    (hc1 : ∀ a, ((f a).all cell1) = true) (hz : zeroOK P e = true) (hby : Nat.ble (P.bytesOf e) 4096 = true) (hn : l.length ≤ 1000000000) (hd : okDst n (some s) = true)
    (hk : K .normal ⟨(s, .os b 0 l.length) :: purgeE b env, (b, ⟨k, true, l.map f⟩) :: purgeH b hp, nx, n⟩) : evOp P (.call { callee := .builtin .append, args := #[x, y], argTypes := #[t, t] }) id (some s) ⟨env, hp, nx, n⟩ K := by
  have hby' : P.bytesOf e ≤ 4096 := Nat.le_of_ble_eq_true hby
  have hap : appendD P (lkH hp) t (evalD env x) (evalD env y) = some (some b, ⟨k, true, l.map f⟩) := by
    have ho : contentD (lkH hp) (.os b 0 0) = some [] := by simp [contentD, hb]
    unfold appendD
    rw [hs.u, h1, h2]
    have hx : contentD (lkH hp) (.sl (l.map f)) = some (l.map f) := rfl
    simp only [hx, ho, Option.bind_some]
    have hmul : l.length * P.bytesOf e ≤ 140737488355328 := by
      have := Nat.mul_le_mul hn hby'
      omega
    rw [if_pos]
    · rw [hb]
      simp only [Option.bind_some]
      rw [if_pos]
      · simp [hs.c, flat_map hf]
      · refine ⟨.inr (by trivial), fun r hr c hc => ?_⟩
        simp only [List.nil_append] at hr
        obtain ⟨a, _, rfl⟩ := List.mem_map.1 hr
        exact scal1_ment (List.all_eq_true.1 (hf a).2 c hc)
    · refine ⟨by rw [hs.c]; exact hs.p, fun r hr => ?_, fun r hr c hc => ?_, by simpa using hmul, by simp; omega, hz, rfl⟩
      · obtain ⟨a, _, rfl⟩ := List.mem_map.1 hr
        rw [(hf a).1, hs.c]
      · obtain ⟨a, _, rfl⟩ := List.mem_map.1 hr
        exact List.all_eq_true.1 (hc1 a) c hc
  refine go_append_on hap hd ?_
  have e : (⟨k, true, l.map f⟩ : Blk).rows.length = l.length := by simp
  rw [e]
  exact hk

theorem go_nileq_sl {α : Type} {f : α → List D} {e k : Nat} {l : List α} {r : TypeId} [hs : TSlice P t e k] (h : evalD env x = .sl (l.map f)) (hne : 0 < l.length) (hd : okDst n (some s) = true) (hk : K .normal ⟨(s, .bool false) :: env, hp, nx, n⟩) :
    evOp P (.binOp .eql t x (.const (.slice none 0 0)) r) id (some s) ⟨env, hp, nx, n⟩ K := by
  refine go_nilcmp (bs := [false]) ?_ rfl ?_ rfl hd ?_
  · simp only [op0, h]; rfl
  · simp only [nilB, nilT, hs.u, h, nilS]
    have : (l.map f).isEmpty = false := by
      cases l with
      | nil => simp at hne
      | cons a l => rfl
    rw [this]; rfl
  · intro b hb
    simp only [List.mem_singleton] at hb
    subst hb
    exact hk
end
end Go.Pv

/- Structs whose last cell is a nil list, as results. -/
namespace Go.Pv
section
variable {P : Program} {K : X → St → Prop} {env : Env} {hp : Hp} {nx n id : Nat}
end
end Go.Pv

/- A call that hands over own memory and returns a struct whose last cell is a new list. -/
namespace Go.Pv
section
variable {P : Program} {K : X → St → Prop} {env : Env} {hp : Hp} {nx n id : Nat} {s : Tmp}
end
end Go.Pv

/- Scopes and labels. -/
namespace Go.Pv
section
variable {P : Program} {E : St → St → Prop} {K : X → St → Prop} {st : St}
end
section
variable {P : Program} {E : St → St → Prop} {K : X → St → Prop} {env : Env} {hp : Hp} {nx n id : Nat} {s : Tmp} {x y u v : Operand} {t : TypeId}
end
end Go.Pv

/- A struct with an own list, handed over behind two values. -/
namespace Go.Pv
end Go.Pv

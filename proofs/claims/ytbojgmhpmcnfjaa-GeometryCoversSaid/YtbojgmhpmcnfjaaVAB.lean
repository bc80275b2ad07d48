import Derived.Test.YtbojgmhpmcnfjaaVAA
/- Part of the proofs over Ytbojgmhpmcnfjaa: PvQ, PvR, PvS, PvT, PvU, PvV, PvW, PvWa, PvXa. -/
set_option linter.unusedVariables false
set_option linter.unusedSimpArgs false
set_option linter.unnecessarySimpa false
namespace Go.Pv


section
variable {P : Program} {w w' w0 : World} {pu pu' Q : Nat → Prop} {S : Frm} {ow ow' : Nat → Ow} {base : Nat} {hp : Nat → Option Blk}

theorem run_callF {f : FuncId} (hr : Runs P f) {ρv : Operand → Value} {c : Operand} {args : Array Operand} {ts : Array TypeId} {o : Oper} {xs ys : Array Value} (ho : o.op = .call { callee := .value c, args := args, argTypes := ts })
    (hc : ρv c = .func (.func f) xs ys) : (execOp ρv o).run P w = .ok (.enter f (xs ++ args.map ρv ++ ys)) w := by
  obtain ⟨fn, hf, hb, hn⟩ := hr
  obtain ⟨dst, op, ty, pos, after, guard⟩ := o
  simp only at ho
  subst ho
  have hn' : fn.name ≠ "runtime.NumGoroutine" := by simpa using hn
  have hb' : fn.body ≠ none := by intro h; rw [h] at hb; cases hb
  simp [execOp, resolve, hc, Deferred.ofValue, invoke, callFunc, hf, hb', hn']

theorem args_pur {args : Array Value} {ds ds' : List D} {Z : Nat → Prop} (hm : Mem base w pu ow hp) (hz : ∀ g, pu g → Z g) (hl : args.size = ds.length) (hr : ∀ (i : Nat) (v : Value) (d : D), args[i]? = some v → ds[i]? = some d → Rep w pu ow v d)
    (hp' : pureL ds = true ∨ ∀ b g o k sz, ow b = .lies g o k sz → Z g) {n : Nat} (h : purL hp n ds = some ds') : ArgsRep w Z args ds' := by
  obtain ⟨h1, h2⟩ := purL_get n ds ds' h
  refine ⟨by omega, fun i v d hv hd => ?_⟩
  obtain ⟨e, m, _, he, hpe⟩ := h2 i d hd
  exact pur_ok hm hz m v e d (hr i v e hv he) (hp'.imp (fun hh => pureL_mem hh i e he) fun hh => hh) hpe

theorem evCall_ok {o : Oper} {f : Operand} {args : Array Operand} {ts : Array TypeId} {id : Nat} {st : St} {a : Act} {K : X → St → Prop} {N : Act → World → Prop} {R : Exit → Act → World → Prop}
    (ho : o.op = .call { callee := .value f, args := args, argTypes := ts }) (hi : InvI w0 S id st a w) (h : evCall P (evalD st.env f) (args.toList.map (evalD st.env)) id o.dst st K)
    (hN : ∀ st' a' w', K .normal st' → InvI w0 S (id + 32) st' a' w' → N a' w') (hP : ∀ d chain w', K (.pan d) st → PanInv w0 S d chain w' → R (.panic chain) a w') : o.wp P a w N R := by
  obtain ⟨pu, ow, hm, he, hb, hz, hid, hs, hd⟩ := hi
  unfold evCall at h
  split at h
  · rename_i g xs ys hfd
    obtain ⟨args', out, hpur, hcon, hown, hout⟩ := h
    have hf := he.eval f
    rw [hfd] at hf
    obtain ⟨vx, vy, hfv, hlx, hrx, hly, hry⟩ := hf.clo_inv
    unfold Oper.wp
    rw [run_callF hcon.1 ho hfv, Oper.upon_enter]
    have hargs : ∀ (i : Nat) (v : Value) (d : D), (vx ++ args.map a.eval ++ vy)[i]? = some v → (xs ++ args.toList.map (evalD st.env) ++ ys)[i]? = some d → Rep w pu ow v d := by
      intro i v d h1 h2
      rw [Array.getElem?_append, Array.getElem?_append] at h1
      rw [List.getElem?_append, List.getElem?_append] at h2
      simp only [Array.size_append, Array.size_map, List.length_append, List.length_map, Array.length_toList, hlx] at h1 h2
      split at h1
      · rename_i hlt
        rw [if_pos hlt] at h2
        split at h1
        · rename_i hlt2
          rw [if_pos hlt2] at h2
          exact hrx i v d h1 h2
        · rename_i hlt2
          rw [if_neg hlt2] at h2
          rw [Array.getElem?_map] at h1
          rw [List.getElem?_map, Array.getElem?_toList] at h2
          obtain ⟨x, hx, rfl⟩ := Option.map_eq_some_iff.1 h1
          rw [hx] at h2
          injection h2 with h2; subst h2
          exact he.eval x
      · rename_i hlt
        rw [if_neg hlt] at h2
        exact hry _ v d h1 h2
    have hlen : (vx ++ args.map a.eval ++ vy).size = (xs ++ args.toList.map (evalD st.env) ++ ys).length := by simp [hlx, hly]
    rcases hown with hpure | hscal
    · have ha := args_pur hm (fun _ h => h) hlen hargs (.inl hpure) hpur
      refine (hcon.2 pu w _ hm.zone ha).mono fun e w' ⟨hbw, Q, hQ, hres⟩ => ?_
      cases out with
      | ret r =>
        obtain ⟨v, rfl, hv⟩ := hres
        obtain ⟨hw32, hok, hK⟩ := hout
        obtain ⟨pu', ow', m1, m2, m3, m4, m5⟩ := merge hm hbw (id := id) (fun b hb => hid b (adopt_range hb).1) hb.size hQ hv (hq := lkH ((adopt id r).2 ++ st.hp)) (fun b => lkH_append _ _ b)
        have hstp : ∀ b, ow b = .pending ∨ ow' b = ow b := fun b => by
          cases hl : lkH (adopt id r).2 b with
          | none => exact .inr (m5 b hl)
          | some blk => exact .inl (hid b (adopt_range (by rw [hl]; rfl)).1)
        refine hN _ _ _ hK ⟨pu', ow', m1, (he.mono m2).put (by rw [hs]; exact hok) m3, hb.trans (hbw.mono hb.size), fun g hg => ?_, fun b hb' => ?_, by rw [put_size]; exact hs, by rw [put_defers]; exact hd.1, hd.2.step m2 hstp⟩
        · rcases m4 g hg with h | h
          · exact hz g h
          · exact .inr (Nat.le_trans hb.size h)
        · rw [m5 b]
          · exact hid b (by omega)
          · cases hl : lkH (adopt id r).2 b with
            | none => rfl
            | some blk =>
              have := (adopt_range (r := r) (n := id) (b := b) (by rw [hl]; rfl)).2
              omega
      | pan d =>
        obtain ⟨v, rfl, hv⟩ := hres
        refine hP d _ _ hout ⟨hb.trans (hbw.mono hb.size), Q, v, rfl, fun g hg => ⟨(hQ g hg).1, ?_⟩, hv⟩
        rcases (hQ g hg).2 with h | h
        · exact hz g h
        · exact .inr (Nat.le_trans hb.size h)
    · have ha := args_pur (Z := fun g => g < w.heap.size) hm hm.zone hlen hargs (.inr fun b g o k sz h => hm.at_lt h) hpur
      refine (hcon.2 _ w _ (fun g h => h) ha).mono fun e w' ⟨hbw, Q, hQ, hres⟩ => ?_
      cases out with
      | ret r =>
        obtain ⟨v, rfl, hv⟩ := hres
        obtain ⟨hw32, hok, hK⟩ := hout
        obtain ⟨pu', ow', m1, m2, m3, m4, m5⟩ := merge hm hbw (id := id) (Q := fun _ => False) (fun b hb => hid b (adopt_range hb).1) hb.size (fun g hg => hg.elim) (hv.rezone hscal) (hq := lkH ((adopt id r).2 ++ st.hp)) (fun b => lkH_append _ _ b)
        have hstp : ∀ b, ow b = .pending ∨ ow' b = ow b := fun b => by
          cases hl : lkH (adopt id r).2 b with
          | none => exact .inr (m5 b hl)
          | some blk => exact .inl (hid b (adopt_range (by rw [hl]; rfl)).1)
        refine hN _ _ _ hK ⟨pu', ow', m1, (he.mono m2).put (by rw [hs]; exact hok) m3, hb.trans (hbw.mono hb.size), fun g hg => ?_, fun b hb' => ?_, by rw [put_size]; exact hs, by rw [put_defers]; exact hd.1, hd.2.step m2 hstp⟩
        · rcases m4 g hg with h | h
          · exact hz g h
          · exact .inr (Nat.le_trans hb.size h)
        · rw [m5 b]
          · exact hid b (by omega)
          · cases hl : lkH (adopt id r).2 b with
            | none => rfl
            | some blk =>
              have := (adopt_range (r := r) (n := id) (b := b) (by rw [hl]; rfl)).2
              omega
      | pan d =>
        obtain ⟨v, rfl, hv⟩ := hres
        exact hP d _ _ hout ⟨hb.trans (hbw.mono hb.size), fun _ => False, v, rfl, fun g hg => hg.elim, panOK_zone hv hscal⟩
  · exact h.elim

theorem op1_flat {ρ : Operand → D} {o : Op} {ptr : Bool} {blk : Blk} (h : op1 P ρ o = some (ptr, blk)) : blk.flat = true → flatRows blk.rows = true := by
  unfold op1 at h
  split at h
  · obtain ⟨z, _, h⟩ := Option.bind_eq_some_iff.1 h
    split at h
    · injection h with h; injection h with h1 h2; subst h2; exact fun h => h
    · cases h
  · split at h
    · injection h with h; injection h with h1 h2; subst h2; exact fun h => h
    · cases h
  · split at h
    · split at h
      · split at h
        · injection h with h; injection h with h1 h2; subst h2; exact fun _ => rfl
        · cases h
      · obtain ⟨z, _, h⟩ := Option.bind_eq_some_iff.1 h
        split at h
        · obtain ⟨rows, _, h⟩ := Option.map_eq_some_iff.1 h
          injection h with h1 h2; subst h2; exact fun h => h
        · cases h
    · cases h
  · split at h
    · obtain ⟨z, _, h⟩ := Option.bind_eq_some_iff.1 h
      split at h
      · injection h with h; injection h with h1 h2; subst h2
        intro h
        simp only [flatRows, List.all_cons, List.all_nil, Bool.and_true] at h
        simp [flatRows, h]
      · cases h
    · cases h
  · cases h

theorem append_val {ds : D} {k : Nat} {rows : List (List D)} {o : Ow} {row : Option Nat} {v : Value} {b : Nat} (h : Appended base w w' pu ow ds k rows o row v) : Rep w' pu (setO ow b o) v (.os b 0 rows.length) := by
  obtain ⟨ad, cap, rfl, hc⟩ := h.val
  rcases hc with ⟨rfl, h0, rfl⟩ | ⟨g, a, sz, rfl, hle, hmm⟩
  · rw [h0]; exact .ose ad b 0 (setO_same _ _ _)
  · exact .osa ad cap b 0 _ g a k sz (setO_same _ _ _) hle fun hc => by
      obtain ⟨h1, h2⟩ := hmm hc
      exact ⟨by rw [h1]; simp, by rw [Nat.zero_add]; exact h2⟩

theorem append_blk {ds : D} {k : Nat} {rows : List (List D)} {o : Ow} {row : Option Nat} {v : Value} {b : Nat} {fl : Bool} (h : Appended base w w' pu ow ds k rows o row v) (hk : 0 < k) (hfl : fl = true → flatRows rows = true)
    (hment : ∀ r ∈ rows, ∀ c ∈ r, ∀ v, Rep w pu ow v c → ment b c = false) (hz : ∀ g, pu g → w'.heap[g]? = w.heap[g]?) : BlkOK w' pu (setO ow b o) o ⟨k, fl, rows⟩ := by
  refine ⟨hfl, ?_⟩
  have hc := h.content
  cases o with
  | dead => exact h.live.1 rfl
  | pending => exact (h.live.2 rfl).elim
  | empty => exact hc
  | mp g => exact hc.elim
  | lies g a k' sz =>
    obtain ⟨rfl, h2, h3, c, t, h5, h6, h7⟩ := hc
    refine ⟨rfl, hk, h2, h3, c, t, h5, h6, fun i j d hd => ?_⟩
    obtain ⟨u, hu, hr⟩ := h7 i j d hd
    have hmd : ment b d = false := by
      unfold cellAt at hd
      obtain ⟨r, hr', hj⟩ := Option.bind_eq_some_iff.1 hd
      exact hment r (List.mem_of_getElem? hr') d (List.mem_of_getElem? hj) u hr
    exact ⟨u, hu, (hr.set_other hmd).mono ⟨fun g hg => ⟨hg, hz g hg⟩, fun _ => .inr (.inl rfl)⟩⟩

theorem mentL_of {b : Nat} : ∀ {ds : List D}, (∀ (i : Nat) (d : D), ds[i]? = some d → ment b d = false) → mentL b ds = false
  | [], _ => rfl
  | d :: ds, h => by
    simp only [mentL, Bool.or_eq_false_iff]
    exact ⟨h 0 d rfl, mentL_of fun i e he => h (i + 1) e (by simpa using he)⟩

theorem mentL_rep {b : Nat} {xs : Array Value} {cs : List D} (hl : xs.size = cs.length) (ih : ∀ (i : Nat) (v : Value) (d : D), xs[i]? = some v → cs[i]? = some d → ment b d = false) : mentL b cs = false :=
  mentL_of fun i d hd => by
    have hlt := (List.getElem?_eq_some_iff.1 hd).1
    exact ih i _ d (Array.getElem?_eq_getElem (by omega)) hd

theorem pend_ment {v : Value} {d : D} {id : Nat} (h : Rep w pu ow v d) (hid : ow id = .pending) : ment id d = false := by
  induction h with
  | pure v d h =>
    induction h with
    | agg vs cs hl h ih => simpa [ment] using mentL_rep hl ih
    | tup vs cs hl h ih => simpa [ment] using mentL_rep hl ih
    | clo fn xs ys cs ds hx h hy h' ih ih' => simp [ment, mentL_rep hx ih, mentL_rep hy ih']
    | iface t v d h ih => simpa [ment] using ih
    | _ => rfl
  | agg vs cs hl _ ih => simpa [ment] using mentL_rep hl ih
  | tup vs cs hl _ ih => simpa [ment] using mentL_rep hl ih
  | clo fn xs ys cs ds hx _ hy _ ih ih' => simp [ment, mentL_rep hx ih, mentL_rep hy ih']
  | iface t v d _ ih => simpa [ment] using ih
  | nilsl => rfl
  | osd a n c b off len hb => simp only [ment, beq_eq_false_iff_ne]; rintro rfl; rw [hid] at hb; cases hb
  | ose a b off hb => simp only [ment, beq_eq_false_iff_ne]; rintro rfl; rw [hid] at hb; cases hb
  | osa a cap b off len g o k sz hb hl hm' => simp only [ment, beq_eq_false_iff_ne]; rintro rfl; rw [hid] at hb; cases hb
  | opd a b row off hb => simp only [ment, beq_eq_false_iff_ne]; rintro rfl; rw [hid] at hb; cases hb
  | opa b row off g o k sz hb => simp only [ment, beq_eq_false_iff_ne]; rintro rfl; rw [hid] at hb; cases hb
  | omd r b hb => simp only [ment, beq_eq_false_iff_ne]; rintro rfl; rw [hid] at hb; cases hb
  | oma b g hb => simp only [ment, beq_eq_false_iff_ne]; rintro rfl; rw [hid] at hb; cases hb

/-- A step that is a value and leaves memory alone, or makes a block. -/
theorem stepK_ok {o : Oper} {id : Nat} {st : St} {a : Act} {K : X → St → Prop} {N : Act → World → Prop} {R : Exit → Act → World → Prop} {v : Value} {d : D} {hp' : Hp} {ow' : Nat → Ow}
    (hm : Mem w0.heap.size w' pu ow' (lkH hp')) (he : EnvOK w' pu ow' st.env a) (hb : Below w0.heap.size w0 w') (hz : ∀ g, pu g → S g ∨ w0.heap.size ≤ g) (hid : ∀ b, id + 32 ≤ b → ow' b = .pending) (hs : a.tmps.size = st.n) (hd : a.defers = [] ∧ Kp S w' pu ow')
    (hrun : (execOp a.eval o).run P w = .ok (.value v) w') (hv : Rep w' pu ow' v d) (h : stepK st o.dst d st.env hp' K)
    (hN : ∀ st' a' w', K .normal st' → InvI w0 S (id + 32) st' a' w' → N a' w') : o.wp P a w N R := by
  unfold Oper.wp
  rw [hrun, Oper.upon_value]
  exact hN _ _ _ h.2 ⟨pu, ow', hm, he.put (by rw [hs]; exact h.1) hv, hb, hz, hid, by rw [put_size]; exact hs, by rw [put_defers]; exact hd.1, hd.2⟩

theorem evOp_ok {o : Oper} {id : Nat} {st : St} {a : Act} {K : X → St → Prop} {N : Act → World → Prop} {R : Exit → Act → World → Prop} (hNA : S.free ∨ noApp o.op = true) (hi : InvI w0 S id st a w) (h : evOp P o.op id o.dst st K)
    (hN : ∀ st' a' w', K .normal st' → InvI w0 S (id + 32) st' a' w' → N a' w') (hP : ∀ d chain w', K (.pan d) st → PanInv w0 S d chain w' → R (.panic chain) a w') : o.wp P a w N R := by
  have hi' := hi
  obtain ⟨pu, ow, hm, he, hb, hz, hid, hs, hd⟩ := hi'
  have hid' : ∀ b, id + 32 ≤ b → ow b = .pending := fun b hb => hid b (by omega)
  unfold evOp at h
  split at h
  · rename_i op t x y ho
    split at h
    · rename_i b blk hst
      obtain ⟨w', hrun, m1, m2, m3⟩ := store_ok (P := P) hm he.eval ho hst
      unfold Oper.wp
      rw [hrun, Oper.upon_skip]
      have hbs : (lkH st.hp b).isSome := by
        unfold storeD at hst
        split at hst
        · obtain ⟨blk', hbk, hst⟩ := Option.bind_eq_some_iff.1 hst
          split at hst
          · simp only [Option.some.injEq, Prod.mk.injEq] at hst
            obtain ⟨rfl, _⟩ := hst
            rw [hbk]; rfl
          · cases hst
        · cases hst
      have hhp : lkH (updH b blk st.hp) = setH b blk (lkH st.hp) := by
        funext c
        rw [lkH_updH]
        unfold setH
        by_cases hc : c = b
        · subst hc; simp [hbs]
        · simp [hc]
      exact hN _ _ _ h.2 ⟨pu, ow, by rw [hhp]; exact m1, (he.mono m2).put (by rw [hs]; exact h.1) (.pure _ _ .skip), hb.trans m3, hz, hid', by rw [put_size]; exact hs, by rw [put_defers]; exact hd.1, hd.2.step m2 fun _ => .inr rfl⟩
    · exact h.elim
  · rename_i op f args ts ho
    exact evCall_ok ho hi h hN hP
  · rename_i op args ts ho
    split at h
    · rename_i s x t t' hargs hts
      split at h
      · rename_i htt
        subst htt
        have ha : args = #[s, x] := by rw [← Array.toArray_toList (xs := args), hargs]
        have ht' : ts = #[t, t] := by rw [← Array.toArray_toList (xs := ts), hts]
        subst ha ht'
        have hrunof : ∀ (v : Value) (w' : World), (Builtin.append_ #[t, t] o.type #[a.eval s, a.eval x]).run P w = .ok v w' → (execOp a.eval o).run P w = .ok (.value v) w' := by
          intro v w' hr
          obtain ⟨dst, op, ty, pos, after, guard⟩ := o
          simp only at ho hr
          subst ho
          simp [execOp, resolve, invoke, builtin, hr]
        have hcore : ∀ (ob : Option Nat) (blk : Blk), appendD P (lkH st.hp) t (evalD st.env s) (evalD st.env x) = some (ob, blk) →
            ∃ v w' o' row, (Builtin.append_ #[t, t] o.type #[a.eval s, a.eval x]).run P w = .ok v w' ∧ Appended w0.heap.size w w' pu ow (evalD st.env s) blk.k blk.rows o' row v ∧ 0 < blk.k ∧ (blk.flat = true → flatRows blk.rows = true) ∧
              ((ob = none ∧ evalD st.env s = .nilsl) ∨ ∃ b off len blk0, ob = some b ∧ evalD st.env s = .os b off len ∧ lkH st.hp b = some blk0 ∧ ∀ r ∈ blk.rows, ∀ c ∈ r, ment b c = false) := by
          intro ob blk hap
          unfold appendD at hap
          split at hap
          · rename_i e hu
            obtain ⟨new, hn, hap⟩ := Option.bind_eq_some_iff.1 hap
            obtain ⟨old, hol, hap⟩ := Option.bind_eq_some_iff.1 hap
            split at hap
            · rename_i hc
              obtain ⟨hpos, hrn, hcn, hby, h63, hzo, hkx⟩ := hc
              have hbx : ∀ b off len blk, evalD st.env x = .os b off len → lkH st.hp b = some blk → blk.k = P.cellsOf e ∨ blk.k = 0 := by
                intro b off len blk hxe hbk
                rw [hxe] at hkx
                simpa [kOK, hbk] using hkx
              split at hap
              · rename_i hse
                simp only [Option.some.injEq, Prod.mk.injEq] at hap
                obtain ⟨rfl, rfl⟩ := hap
                rw [hse] at hol
                injection hol with hol; subst hol
                obtain ⟨v, w', o', row, h1, h2⟩ := append_core (P := P) (ty := o.type) hm hb.size hu (he.eval s) (he.eval x) (by rw [hse]; rfl) hn hpos hrn hcn hbx hby h63 hzo (.inl ⟨hse, rfl⟩)
                exact ⟨v, w', o', row, h1, by rw [hse] at h2 ⊢; exact h2, hpos, fun h => h, .inl ⟨rfl, hse⟩⟩
              · rename_i b off len hse
                obtain ⟨blk0, hb0, hap⟩ := Option.bind_eq_some_iff.1 hap
                split at hap
                · rename_i hc2
                  simp only [Option.some.injEq, Prod.mk.injEq] at hap
                  obtain ⟨rfl, rfl⟩ := hap
                  obtain ⟨v, w', o', row, h1, h2⟩ := append_core (P := P) (ty := o.type) hm hb.size hu (he.eval s) (he.eval x) hol hn hpos hrn hcn hbx hby h63 hzo (.inr ⟨b, off, len, blk0, hse, hb0, hc2.1⟩)
                  refine ⟨v, w', o', row, h1, h2, hpos, fun hf => ?_, .inr ⟨b, off, len, blk0, rfl, hse, hb0, hc2.2⟩⟩
                  simp only [Bool.and_eq_true] at hf
                  have hf0 := (hm.blk b blk0 hb0).1 hf.1
                  rw [hse] at hol
                  simp only [contentD, hb0, Option.bind_some] at hol
                  split at hol
                  · injection hol with hol; subst hol
                    simp only [flatRows, List.all_append, Bool.and_eq_true] at hf hf0 ⊢
                    refine ⟨List.all_eq_true.2 fun r hr => (List.all_eq_true.1 hf0) r (List.mem_of_mem_drop (List.mem_of_mem_take hr)), hf.2⟩
                  · cases hol
                · cases hap
              · cases hap
            · cases hap
          · cases hap
        have hrow : ∀ {ds : D} {k : Nat} {rows : List (List D)} {o' : Ow} {row : Option Nat} {v : Value} {w' : World}, Appended w0.heap.size w w' pu ow ds k rows o' row v → ∀ g, pu g → w'.heap[g]? = w.heap[g]? := fun hA g hg => hA.keep g (fun y hy => by
          obtain ⟨b, off, len, a', k', sz', _, hat⟩ := hA.rowAt y hy
          rintro rfl
          exact (hm.own b _ _ _ _ hat).2 hg) (hm.zone g hg)
        split at h
        · rename_i blk hap
          obtain ⟨v, w', o', row, hrun, hA, hk, hfl, hwhich⟩ := hcore none blk hap
          obtain ⟨_, hnil⟩ : none = (none : Option Nat) ∧ evalD st.env s = .nilsl := by
            rcases hwhich with h | ⟨_, _, _, _, h, _⟩
            · exact h
            · cases h
          rw [hnil] at hA
          have hrn : row = none := by
            cases row with
            | none => rfl
            | some y => obtain ⟨_, _, _, _, _, _, hh, _⟩ := hA.rowAt y rfl; cases hh
          subst hrn
          have hbw : Below w.heap.size w w' := ⟨hA.below.os, hA.below.tape, hA.below.output, hA.below.size, fun k hk => hA.keep k (fun y hy => by cases hy) hk, hA.below.drawn⟩
          have hm' : Mem w0.heap.size w pu ow (lkH ((id, blk) :: st.hp)) := by
            refine ⟨fun b blk' hb' => ?_, fun b hb' => ?_, hm.injO, hm.ownO, hm.zone⟩
            · simp only [lkH] at hb'
              split at hb'
              · rename_i hbi
                subst hbi
                rw [hid b (Nat.le_refl _)]
                injection hb' with hb'; subst hb'
                exact ⟨hfl, trivial⟩
              · exact hm.blk b blk' hb'
            · simp only [lkH] at hb'
              split at hb'
              · cases hb'
              · exact hm.none b hb'
          have hblk : lkH ((id, blk) :: st.hp) id = some blk := by simp [lkH]
          have hpid := hid id (Nat.le_refl _)
          have hok := append_blk (b := id) (fl := blk.flat) hA hk hfl (fun r hr c hc v hv => pend_ment hv hpid) (hrow hA)
          have hmem := (hm'.grow hbw).set (o := o') hpid hblk hok (fun g hat => by
            rcases hA.placeO g hat with ⟨rfl, _⟩ | h
            · exact ⟨hb.size, fun hg => Nat.lt_irrefl _ (hm.zone _ hg), fun b' h2 => Nat.lt_irrefl _ (hm.on_lt h2)⟩
            · cases h)
          have hext : Ext w pu ow w' pu (setO ow id o') := ⟨fun g hg => ⟨hg, hrow hA g hg⟩, (ext_set (w := w) (pu := pu) hpid).ow⟩
          exact stepK_ok hmem (he.mono hext) (hb.trans (hbw.mono hb.size)) hz (fun b hb' => by rw [setO_other (by omega)]; exact hid' b hb') hs ⟨hd.1, hd.2.step hext fun c => by by_cases hc : c = id; (subst hc; exact .inl hpid); exact .inr (setO_other hc)⟩ (hrunof v w' hrun) (append_val hA) h hN
        · rename_i b blk hap
          obtain ⟨v, w', o', row, hrun, hA, hk, hfl, hwhich⟩ := hcore (some b) blk hap
          obtain ⟨b', off, len, blk0, hbb, hos, hb0, hment⟩ : ∃ b' off len blk0, some b = some b' ∧ evalD st.env s = .os b' off len ∧ lkH st.hp b' = some blk0 ∧ ∀ r ∈ blk.rows, ∀ c ∈ r, ment b' c = false := by
            rcases hwhich with ⟨h, _⟩ | h
            · cases h
            · exact h
          injection hbb with hbb; subst hbb
          have hok := append_blk (b := b) (fl := blk.flat) hA hk hfl (fun r hr c hc v hv => hment r hr c hc) (hrow hA)
          have hmem := hm.write (o := o') (blk' := blk) hb0 (hm.live hb0) (row := row) hA.keep hA.size (fun y hy => by
              obtain ⟨b2, off2, len2, a2, k2, sz2, hh, hat⟩ := hA.rowAt y hy
              rw [hos] at hh
              injection hh with hh; subst hh
              exact Ow.on_lies hat) (fun g hat => by
              rcases hA.placeO g hat with ⟨rfl, _⟩ | hrw
              · exact ⟨hb.size, fun hg => Nat.lt_irrefl _ (hm.zone _ hg), fun b' _ h2 => Nat.lt_irrefl _ (hm.on_lt h2)⟩
              · obtain ⟨b2, off2, len2, a2, k2, sz2, hh, hat2⟩ := hA.rowAt g hrw
                rw [hos] at hh
                injection hh with hh; subst hh
                exact ⟨(hm.own b _ _ _ _ hat2).1, (hm.own b _ _ _ _ hat2).2, fun b' hne h3 => hne (hm.injO b' b _ h3 (Ow.on_lies hat2))⟩) hok
          have hpur : lkH ((b, blk) :: purgeH b st.hp) = purged b blk (lkH st.hp) := by
            funext c
            simp only [lkH, purged, lkH_purgeH]
          have henv : EnvOK w' pu (setO ow b o') (purgeE b st.env) a := fun s' => by
            rw [lkE_purge]
            exact (he s').pd.mono ⟨fun g hg => ⟨hg, hrow hA g hg⟩, fun _ => .inr (.inl rfl)⟩
          have hlt : b < id := by
            rcases Nat.lt_or_ge b id with h | h
            · exact h
            · have hr := he.eval s
              rw [hos] at hr
              have := pend_ment hr (hid b h)
              simp [ment] at this
          unfold Oper.wp
          rw [hrunof v w' hrun, Oper.upon_value]
          refine hN _ _ _ h.2 ⟨pu, setO ow b o', by rw [hpur]; exact hmem, henv.put (by rw [hs]; exact h.1) (append_val hA), hb.trans hA.below, hz, fun c hc => by rw [setO_other (by omega)]; exact hid' c hc, by rw [put_size]; exact hs, by rw [put_defers]; exact hd.1, ⟨fun g hg => ?_, fun c => .inl ?_⟩⟩
          · obtain ⟨q1, q2⟩ := hd.2.1 g hg
            exact ⟨q1, (hrow hA g q1).trans q2⟩
          · rcases hNA with hNA | hNA
            · exact hNA c
            · rw [ho] at hNA; cases hNA
        · exact h.elim
      · exact h.elim
    · exact h.elim
  · rename_i op t parts ho
    split at h
    · rename_i d hbd
      obtain ⟨v, h1, h2⟩ := buildD_ok (P := P) he.eval hbd
      refine stepK_ok hm he hb hz hid' hs hd (v := v) ?_ h2 h hN
      obtain ⟨dst, op, ty, pos, after, guard⟩ := o
      simp only at ho
      subst ho
      simp [execOp, h1]
    · exact h.elim
  · split at h
    · rename_i d hop
      obtain ⟨v, h1, h2⟩ := op0_ok (P := P) hm he.eval hop
      exact stepK_ok hm he hb hz hid' hs hd h1 h2 h hN
    · split at h
      · rename_i ptr blk hop
        have hm' : Mem w0.heap.size w pu ow (lkH ((id, blk) :: st.hp)) := by
          refine ⟨fun b blk' hb' => ?_, fun b hb' => ?_, hm.injO, hm.ownO, hm.zone⟩
          · simp only [lkH] at hb'
            split at hb'
            · rename_i hbi
              subst hbi
              rw [hid b (Nat.le_refl _)]
              injection hb' with hb'; subst hb'
              exact ⟨op1_flat hop, trivial⟩
            · exact hm.blk b blk' hb'
          · simp only [lkH] at hb'
            split at hb'
            · cases hb'
            · exact hm.none b hb'
        obtain ⟨v, w', ow', h1, h2, h3, h4, h5, h6⟩ := op1_ok (P := P) (id := id) hm' hb.size (hid id (Nat.le_refl _)) he.eval hop (by simp [lkH])
        exact stepK_ok h2 (he.mono h3) (hb.trans (h4.mono hb.size)) hz (fun b hb' => by rw [h6 b (by omega)]; exact hid' b hb') hs ⟨hd.1, hd.2.step h3 fun c => by by_cases hc : c = id; (subst hc; exact .inl (hid _ (Nat.le_refl _))); exact .inr (h6 c hc)⟩ h1 h5 h hN
      · split at h
        · rename_i bs hnb
          obtain ⟨b, hbm, h1⟩ := nilB_ok (P := P) hm he.eval (fun _ => rfl) hnb
          exact stepK_ok hm he hb hz hid' hs hd h1 (.pure _ _ (.bool b)) (h b hbm) hN
        · exact h.elim

end
end Go.Pv

namespace Go.Pv


section
variable {P : Program} {w w' w0 : World} {pu pu' Q : Nat → Prop} {S : Frm} {ow ow' : Nat → Ow} {base : Nat} {hp : Nat → Option Blk}

theorem guard_ok {all : List Oper} {env : Env} {a : Act} (he : EnvOK w pu ow env a) {j : Nat} {r : Option Bool} (h : guardD all env j = some r) : yielded all.toArray a.tmps j = r := by
  unfold guardD at h
  unfold yielded
  simp only [List.getElem?_toArray]
  cases hd : (all[j]?).bind (·.dst) with
  | none =>
    rw [hd] at h
    cases h
    rfl
  | some s =>
    rw [hd] at h
    simp only at h
    have hs := he s
    rw [Array.getD_eq_getD_getElem?] at hs
    split at h
    · rename_i b hb
      injection h with h; subst h
      rw [hb] at hs
      have := hs.bool_inv
      cases ht : a.tmps[s]? with
      | none => rw [ht] at this; cases this
      | some v => rw [ht] at this; simp at this; subst this; simp [ht]
    · rename_i hb
      injection h with h; subst h
      rw [hb] at hs
      have hu : (a.tmps[s]?).getD undef = undef := by
        generalize (a.tmps[s]?).getD undef = u at hs
        cases hs with
        | pure _ _ hs => cases hs; rfl
      cases ht : a.tmps[s]? with
      | none => simp [ht]
      | some v =>
        rw [ht] at hu
        simp at hu
        subst hu
        simp [ht, undef]
    · cases h

theorem InvI.skip {id : Nat} {st : St} {a : Act} (hi : InvI w0 S id st a w) {dst : Option Tmp} (hd : okDst st.n dst = true) : InvI w0 S (id + 32) (st.put dst .skip) (a.put dst undef) w := by
  obtain ⟨pu, ow, hm, he, hb, hz, hid, hs, hdf⟩ := hi
  exact ⟨pu, ow, hm, he.put (by rw [hs]; exact hd) (.pure _ _ .skip), hb, hz, fun b hb => hid b (by omega), by rw [put_size]; exact hs, by rw [put_defers]; exact hdf.1, hdf.2⟩

theorem InvI.env {id : Nat} {st : St} {a : Act} (hi : InvI w0 S id st a w) : ∃ pu ow, EnvOK w pu ow st.env a := by
  obtain ⟨pu, ow, hm, he, _⟩ := hi
  exact ⟨pu, ow, he⟩

theorem InvI.defers {id : Nat} {st : St} {a : Act} (hi : InvI w0 S id st a w) : a.defers = [] := by
  obtain ⟨pu, ow, hm, he, hb, hz, hid, hs, hdf⟩ := hi
  exact hdf.1

theorem evOps_ok {all : List Oper} {K : X → St → Prop} : ∀ (l : List Oper) (id : Nat) (st : St) (a : Act) (w : World), (S.free ∨ ∀ o ∈ l, noApp o.op = true) → InvI w0 S id st a w → evOps P all l id st K → wpList P all.toArray (Post w0 S K) l a w
  | [], id, st, a, w, _, hi, h => ⟨_, h, hi⟩
  | o :: rest, id, st, a, w, hNA, hi, h => by
    have hNA1 : S.free ∨ noApp o.op = true := hNA.imp (fun h => h) fun h => h o (by simp)
    have hNA2 : S.free ∨ ∀ o ∈ rest, noApp o.op = true := hNA.imp (fun h => h) fun h o ho => h o (by simp [ho])
    have hrun : ∀ (hi : InvI w0 S id st a w), evOp P o.op id o.dst st (fun x st' => match x with | .normal => evOps P all rest (id + 32) st' K | x => K x st') → o.wp P a w (wpList P all.toArray (Post w0 S K) rest) (Post w0 S K) := fun hi hr =>
      evOp_ok hNA1 hi hr (fun st' a' w' hK hi' => evOps_ok rest _ st' a' w' hNA2 hi' hK) fun d chain w' hK hp => ⟨d, ⟨st, hK⟩, hi.defers, hp⟩
    unfold evOps at h
    simp only at h
    unfold wpList
    cases hg : o.guard with
    | none =>
      rw [hg] at h
      rw [if_pos (by simp [Region.wanted, hg])]
      exact .inl (hrun hi h)
    | some jw =>
      obtain ⟨j, want⟩ := jw
      rw [hg] at h
      simp only at h
      obtain ⟨pu, ow, he⟩ := hi.env
      split at h
      · rename_i b hgd
        have hy := guard_ok he hgd
        by_cases hb : b = want
        · rw [if_pos (by simp [Region.wanted, hg, hy, hb])]
          exact .inl (hrun hi (h.1 hb))
        · have hb' : b = !want := by cases b <;> cases want <;> simp_all
          rw [if_neg (by simp [Region.wanted, hg, hy, hb])]
          obtain ⟨h1, h2⟩ := h.2 hb'
          exact evOps_ok rest _ _ _ _ hNA2 (hi.skip h1) h2
      · rename_i hgd
        have hy := guard_ok he hgd
        rw [if_neg (by simp [Region.wanted, hg, hy])]
        exact evOps_ok rest _ _ _ _ hNA2 (hi.skip h.1) h.2
      · exact h.elim

end
end Go.Pv

/- Regions whose order is open: operations that only read, call and make memory, in whatever order; behind them the writing ones. -/
namespace Go.Pv


/-- Reads, calls, makes memory: writes nothing that is there. -/
def kindA : Op → Bool
  | .store .. => false
  | .call { callee := .builtin .append, .. } => false
  | .binOp _ _ _ (.const (.slice none 0 0)) _ => false
  | _ => true

theorem nilB_kind {P : Program} {ρ : Operand → D} {hp : Nat → Option Blk} {o : Op} {bs : List Bool} (h : nilB P ρ hp o = some bs) : kindA o = false := by
  unfold nilB at h
  split at h
  · rfl
  · cases h

/-- Such an operation's value, and the blocks that it makes. -/
def OpA (P : Program) (ρ : Operand → D) (hp : Nat → Option Blk) (id : Nat) (o : Op) (d : D) (nb : Hp) : Prop :=
  match o with
  | .call { callee := .value f, args := args, .. } =>
    ∃ g xs ys args' r, ρ f = .clo (.func g) xs ys ∧ purL hp 64 (xs ++ args.toList.map ρ ++ ys) = some args' ∧ Contract P g args' (.ret r) ∧
      (pureL (xs ++ args.toList.map ρ ++ ys) = true ∨ refless r = true) ∧ widR r ≤ 32 ∧ d = (adopt id r).1 ∧ nb = (adopt id r).2
  | .build t parts => buildD P t (parts.toList.map fun (i, x) => (i, ρ x)) = some d ∧ nb = []
  | o => (op0 P ρ hp o = some d ∧ nb = []) ∨ ∃ ptr blk, op1 P ρ o = some (ptr, blk) ∧ d = outD id ptr blk ∧ nb = [(id, blk)]

section
variable {P : Program} {w w' w0 : World} {pu pu' Q : Nat → Prop} {S : Frm} {ow ow' : Nat → Ow} {base : Nat} {hp hq : Nat → Option Blk}

theorem Mem.addPend (hm : Mem base w pu ow hp) {id : Nat} {blk : Blk} (hid : ow id = .pending) (hf : blk.flat = true → flatRows blk.rows = true) (hhq : ∀ b, hq b = (lkH [(id, blk)] b).or (hp b)) : Mem base w pu ow hq := by
  refine ⟨fun b blk' hb' => ?_, fun b hb' => ?_, hm.injO, hm.ownO, hm.zone⟩
  · rw [hhq] at hb'
    simp only [lkH] at hb'
    split at hb'
    · rename_i hbi
      subst hbi
      injection hb' with hb'; subst hb'
      rw [hid]
      exact ⟨hf, trivial⟩
    · exact hm.blk b blk' (by simpa using hb')
  · rw [hhq] at hb'
    simp only [lkH] at hb'
    split at hb'
    · cases hb'
    · exact hm.none b (by simpa using hb')

theorem opA_ok {o : Oper} {id : Nat} {a : Act} {ρ : Operand → D} {d : D} {nb : Hp} {N : Act → World → Prop} {R : Exit → Act → World → Prop} (hm : Mem base w pu ow hp) (hbase : base ≤ w.heap.size) (hρ : ∀ x, Rep w pu ow (a.eval x) (ρ x))
    (h : OpA P ρ hp id o.op d nb) (hhq : ∀ b, hq b = (lkH nb b).or (hp b)) (hpend : ∀ b, (lkH nb b).isSome → ow b = .pending)
    (hN : ∀ v w' pu' ow', Mem base w' pu' ow' hq → Ext w pu ow w' pu' ow' → Rep w' pu' ow' v d → Below w.heap.size w w' → (∀ g, pu' g → pu g ∨ w.heap.size ≤ g) → (∀ b, lkH nb b = none → ow' b = ow b) → N (a.put o.dst v) w') : o.wp P a w N R := by
  have val : ∀ v, (execOp a.eval o).run P w = .ok (.value v) w → Rep w pu ow v d → nb = [] → o.wp P a w N R := by
    intro v h1 h2 h3
    subst h3
    have hqp : hq = hp := funext fun b => by rw [hhq]; rfl
    unfold Oper.wp
    rw [h1, Oper.upon_value]
    exact hN v w pu ow (by rw [hqp]; exact hm) (Ext.refl _ _ _) h2 (Below.refl _ _) (fun g hg => .inl hg) fun _ _ => rfl
  unfold OpA at h
  split at h
  · rename_i op f args ts ho
    obtain ⟨g, xs, ys, args', r, hf, hpur, hcon, hown, hw, rfl, rfl⟩ := h
    have hfr := hρ f
    rw [hf] at hfr
    obtain ⟨vx, vy, hfv, hlx, hrx, hly, hry⟩ := hfr.clo_inv
    unfold Oper.wp
    rw [run_callF hcon.1 ho hfv, Oper.upon_enter]
    have hargs : ∀ (i : Nat) (v : Value) (d : D), (vx ++ args.map a.eval ++ vy)[i]? = some v → (xs ++ args.toList.map ρ ++ ys)[i]? = some d → Rep w pu ow v d := by
      intro i v d h1 h2
      rw [Array.getElem?_append, Array.getElem?_append] at h1
      rw [List.getElem?_append, List.getElem?_append] at h2
      simp only [Array.size_append, Array.size_map, List.length_append, List.length_map, Array.length_toList, hlx] at h1 h2
      split at h1
      · rename_i hlt
        rw [if_pos hlt] at h2
        split at h1
        · rename_i hlt2
          rw [if_pos hlt2] at h2
          exact hrx i v d h1 h2
        · rename_i hlt2
          rw [if_neg hlt2] at h2
          rw [Array.getElem?_map] at h1
          rw [List.getElem?_map, Array.getElem?_toList] at h2
          obtain ⟨x, hx, rfl⟩ := Option.map_eq_some_iff.1 h1
          rw [hx] at h2
          injection h2 with h2; subst h2
          exact hρ x
      · rename_i hlt
        rw [if_neg hlt] at h2
        exact hry _ v d h1 h2
    have hlen : (vx ++ args.map a.eval ++ vy).size = (xs ++ args.toList.map ρ ++ ys).length := by simp [hlx, hly]
    rcases hown with hpure | hscal
    · have ha := args_pur hm (fun _ h => h) hlen hargs (.inl hpure) hpur
      refine (hcon.2 pu w _ hm.zone ha).mono fun e w' ⟨hbw, Q, hQ, v, he, hv⟩ => ?_
      subst he
      obtain ⟨pu', ow', m1, m2, m3, m4, m5⟩ := merge hm hbw (id := id) hpend hbase hQ hv hhq
      exact hN v w' pu' ow' m1 m2 m3 hbw m4 m5
    · have ha := args_pur (Z := fun g => g < w.heap.size) hm hm.zone hlen hargs (.inr fun b g o k sz h => hm.at_lt h) hpur
      refine (hcon.2 _ w _ (fun g h => h) ha).mono fun e w' ⟨hbw, Q, hQ, v, he, hv⟩ => ?_
      subst he
      obtain ⟨pu', ow', m1, m2, m3, m4, m5⟩ := merge hm hbw (id := id) (Q := fun _ => False) hpend hbase (fun g hg => hg.elim) (hv.rezone hscal) hhq
      exact hN v w' pu' ow' m1 m2 m3 hbw m4 m5
  · rename_i op t parts ho
    obtain ⟨hbd, hnb⟩ := h
    obtain ⟨v, h1, h2⟩ := buildD_ok (P := P) hρ hbd
    refine val v ?_ h2 hnb
    obtain ⟨dst, op, ty, pos, after, guard⟩ := o
    simp only at ho
    subst ho
    simp [execOp, h1]
  · rcases h with ⟨hop, hnb⟩ | ⟨ptr, blk, hop, rfl, rfl⟩
    · obtain ⟨v, h1, h2⟩ := op0_ok (P := P) hm hρ hop
      exact val v h1 h2 hnb
    · have hpid := hpend id (by simp [lkH])
      have hm' := hm.addPend hpid (op1_flat hop) hhq
      obtain ⟨v, w', ow', h1, h2, h3, h4, h5, h6⟩ := op1_ok (P := P) (id := id) hm' hbase hpid hρ hop (by rw [hhq]; simp [lkH])
      unfold Oper.wp
      rw [h1, Oper.upon_value]
      exact hN v w' pu ow' h2 h3 h5 h4 (fun g hg => .inl hg) fun b hb => h6 b (by rintro rfl; simp [lkH] at hb)

theorem evOp_A {o : Op} {id : Nat} {dst : Option Tmp} {st : St} {K : X → St → Prop} (hk : kindA o = true) (h : evOp P o id dst st K) :
    (∃ d nb, OpA P (evalD st.env) (lkH st.hp) id o d nb ∧ okDst st.n dst = true ∧ K .normal { st with env := putE dst d st.env, hp := nb ++ st.hp }) ∨ ∃ d, K (.pan d) st := by
  unfold evOp at h
  split at h
  · cases hk
  · rename_i f args ts
    unfold evCall at h
    split at h
    · rename_i g xs ys hfd
      obtain ⟨args', out, hpur, hcon, hown, hout⟩ := h
      cases out with
      | ret r => exact .inl ⟨_, _, ⟨g, xs, ys, args', r, hfd, hpur, hcon, hown, hout.1, rfl, rfl⟩, hout.2.1, hout.2.2⟩
      | pan d => exact .inr ⟨d, hout⟩
    · exact h.elim
  · cases hk
  · rename_i t parts
    split at h
    · rename_i d hbd
      exact .inl ⟨d, [], ⟨hbd, rfl⟩, h.1, h.2⟩
    · exact h.elim
  · rename_i hne1 hne2 hne3 hne4
    split at h
    · rename_i d hop
      refine .inl ⟨d, [], ?_, h.1, h.2⟩
      unfold OpA
      split
      · exact (hne2 _ _ _ rfl).elim
      · exact (hne4 _ _ rfl).elim
      · exact .inl ⟨hop, rfl⟩
    · split at h
      · rename_i ptr blk hop
        refine .inl ⟨_, [(id, blk)], ?_, h.1, h.2⟩
        unfold OpA
        split
        · exact (hne2 _ _ _ rfl).elim
        · exact (hne4 _ _ rfl).elim
        · exact .inr ⟨ptr, blk, hop, rfl, rfl⟩
      · split at h
        · rename_i bs hnb
          rw [nilB_kind hnb] at hk
          cases hk
        · exact h.elim

end
end Go.Pv

/- An operation looks at its operands alone, and at no block that is not there. -/
namespace Go.Pv

def Sub (hp hq : Nat → Option Blk) : Prop := ∀ b blk, hp b = some blk → hq b = some blk

section
variable {P : Program} {ρ ρ' : Operand → D} {hp hq : Nat → Option Blk}

theorem map_ops {xs : Array Operand} (h : ∀ x ∈ xs, ρ x = ρ' x) : xs.toList.map ρ = xs.toList.map ρ' :=
  List.map_congr_left fun x hx => h x (by simpa using hx)

theorem map_parts {ps : Array (Nat × Operand)} (h : ∀ x ∈ ps.map (·.2), ρ x = ρ' x) : (ps.toList.map fun (i, x) => (i, ρ x)) = ps.toList.map fun (i, x) => (i, ρ' x) :=
  List.map_congr_left fun p hp => by
    obtain ⟨i, x⟩ := p
    simp only [h x (Array.mem_map.2 ⟨(i, x), by simpa using hp, rfl⟩)]

theorem op0_congr {o : Op} (h : ∀ x ∈ o.operands, ρ x = ρ' x) : op0 P ρ hp o = op0 P ρ' hp o := by
  cases o <;> simp only [Op.operands] at h <;> try (first | rfl | (simp_all [op0]; done))
  case slice t x lo hi mx =>
    cases lo <;> cases hi <;> cases mx <;> simp_all [op0]
  case lookup t m k c =>
    cases c <;> simp_all [op0]
  case call c =>
    obtain ⟨callee, args, ts⟩ := c
    cases callee with
    | value f => rfl
    | invoke r m => rfl
    | builtin b =>
      have ha : ∀ x ∈ args.toList, ρ x = ρ' x := fun x hx => h x (by simpa [Call.operands] using hx)
      cases b <;> try rfl
      all_goals
        simp only [op0]
        cases hl : args.toList with
        | nil => rfl
        | cons x r =>
          rw [hl] at ha
          have h1 := ha x (by simp)
          have h2 : r.map ρ = r.map ρ' := List.map_congr_left fun y hy => ha y (by simp [hy])
          first
            | (simp only [h1, h2]; done)
            | (cases r with
               | nil => (cases ts.toList with
                 | nil => rfl
                 | cons t ts => cases ts <;> simp only [h1])
               | cons _ _ => rfl)

theorem op1_congr {o : Op} (h : ∀ x ∈ o.operands, ρ x = ρ' x) : op1 P ρ o = op1 P ρ' o := by
  cases o <;> simp only [Op.operands] at h <;> try (first | rfl | (simp_all [op1]; done))
  case buildSlice t n ps =>
    simp only [op1]
    rw [map_parts (ps := ps) fun x hx => h x (by simpa using hx)]

theorem sub_bind {α : Type} {b : Nat} {f : Blk → Option α} {d : α} (hs : Sub hp hq) (h : (hp b).bind f = some d) : (hq b).bind f = some d := by
  obtain ⟨blk, hb, h⟩ := Option.bind_eq_some_iff.1 h
  rw [hs b blk hb]; exact h

theorem op0_mono {o : Op} {d : D} (hs : Sub hp hq) (h : op0 P ρ hp o = some d) : op0 P ρ hq o = some d := by
  unfold op0 at h ⊢
  split at h
  all_goals try exact h
  case _ t a =>
    unfold loadD at h ⊢
    split at h
    · exact h
    · exact sub_bind hs h
    · cases h
  case _ x =>
    unfold nilCheckD at h ⊢
    split at h
    · exact h
    · rename_i b r o _
      cases hb : hp b with
      | none => rw [hb] at h; cases h
      | some blk => rw [hb] at h; simp only [hs b blk hb]; exact h
    · exact h
    · cases h
  case _ t x lo hi =>
    unfold sliceD at h ⊢
    split at h
    · exact h
    · exact h
    · rename_i e b off len _ hu
      cases hb : hp b with
      | none => rw [hb] at h; cases h
      | some blk => rw [hb] at h; simp only [hs b blk hb]; exact h
    · cases h
  case _ s x f =>
    unfold fieldAddrD at h ⊢
    split at h
    · exact h
    · rename_i o t b row off _ hf
      cases hb : hp b with
      | none => rw [hb] at h; simp at h
      | some blk => rw [hb] at h; simp only [hs b blk hb]; exact h
    · cases h
  case _ t x i =>
    unfold indexAddrD at h ⊢
    split at h
    · exact h
    · rename_i b off len _ n _ _ _
      cases hb : hp b with
      | none => rw [hb] at h; cases h
      | some blk => rw [hb] at h; simp only [hs b blk hb]; exact h
    · exact h
    · rename_i b row off _ n _ _ _
      cases hb : hp b with
      | none => rw [hb] at h; cases h
      | some blk => rw [hb] at h; simp only [hs b blk hb]; exact h
    · cases h
  case _ t m k =>
    unfold lookupD at h ⊢
    split at h
    · exact sub_bind hs h
    · cases h
  case _ xs ts =>
    split at h
    · unfold lenD at h ⊢
      split at h
      · exact h
      · exact h
      · exact h
      · rename_i b _ len _ _
        cases hb : hp b with
        | none => rw [hb] at h; cases h
        | some blk => rw [hb] at h; simp only [hs b blk hb]; exact h
      · exact h
      · cases h
    · cases h

theorem pur_mono (hs : Sub hp hq) : ∀ n, (∀ d d', pur hp n d = some d' → pur hq n d = some d') ∧ (∀ ds ds', purL hp n ds = some ds' → purL hq n ds = some ds') ∧ (∀ rs rs', purR hp n rs = some rs' → purR hq n rs = some rs')
  | 0 => ⟨fun d d' h => by simp [pur] at h, fun d d' h => by simp [purL] at h, fun d d' h => by simp [purR] at h⟩
  | n + 1 => by
    obtain ⟨h1, h2, h3⟩ := pur_mono hs n
    refine ⟨fun d d' h => ?_, fun ds ds' h => ?_, fun rs rs' h => ?_⟩
    · cases d with
      | os b off len =>
        simp only [pur] at h ⊢
        obtain ⟨blk, hb, h⟩ := Option.bind_eq_some_iff.1 h
        rw [hs b blk hb]
        simp only [Option.bind_some]
        split at h
        · rename_i hl
          rw [if_pos hl]
          split at h
          · rename_i hf; rw [if_pos hf]; exact h
          · rename_i hf
            rw [if_neg hf]
            obtain ⟨r, hr, rfl⟩ := Option.map_eq_some_iff.1 h
            rw [h3 _ _ hr]; rfl
        · cases h
      | op b row off =>
        simp only [pur] at h ⊢
        obtain ⟨blk, hb, h⟩ := Option.bind_eq_some_iff.1 h
        rw [hs b blk hb]
        simp only [Option.bind_some]
        split at h
        · rename_i hl
          rw [if_pos hl]
          split at h
          · rename_i hf; rw [if_pos hf]; exact h
          · rename_i hf
            rw [if_neg hf]
            obtain ⟨r, hr, rfl⟩ := Option.map_eq_some_iff.1 h
            rw [h2 _ _ hr]; rfl
        · cases h
      | agg cs =>
        simp only [pur] at h ⊢
        obtain ⟨r, hr, rfl⟩ := Option.map_eq_some_iff.1 h
        rw [h2 _ _ hr]; rfl
      | tup cs =>
        simp only [pur] at h ⊢
        obtain ⟨r, hr, rfl⟩ := Option.map_eq_some_iff.1 h
        rw [h2 _ _ hr]; rfl
      | clo fn xs ys =>
        simp only [pur] at h ⊢
        obtain ⟨r, hr, h⟩ := Option.bind_eq_some_iff.1 h
        obtain ⟨s, hs', rfl⟩ := Option.map_eq_some_iff.1 h
        rw [h2 _ _ hr, h2 _ _ hs']; rfl
      | iface t d =>
        simp only [pur] at h ⊢
        obtain ⟨r, hr, rfl⟩ := Option.map_eq_some_iff.1 h
        rw [h1 _ _ hr]; rfl
      | _ => simpa [pur] using h
    · cases ds with
      | nil => simpa [purL] using h
      | cons d ds =>
        simp only [purL] at h ⊢
        obtain ⟨r, hr, h⟩ := Option.bind_eq_some_iff.1 h
        obtain ⟨s, hs', rfl⟩ := Option.map_eq_some_iff.1 h
        rw [h1 _ _ hr, h2 _ _ hs']; rfl
    · cases rs with
      | nil => simpa [purR] using h
      | cons d ds =>
        simp only [purR] at h ⊢
        obtain ⟨r, hr, h⟩ := Option.bind_eq_some_iff.1 h
        obtain ⟨s, hs', rfl⟩ := Option.map_eq_some_iff.1 h
        rw [h2 _ _ hr, h3 _ _ hs']; rfl

theorem OpA_mono {id : Nat} {o : Op} {d : D} {nb : Hp} (hs : Sub hp hq) (hρ : ∀ x ∈ o.operands, ρ x = ρ' x) (h : OpA P ρ hp id o d nb) : OpA P ρ' hq id o d nb := by
  unfold OpA at h ⊢
  split at h
  · rename_i f args ts
    obtain ⟨g, xs, ys, args', r, hf, hpur, hcon, hown, hw, hd, hnb⟩ := h
    have hargs : args.toList.map ρ = args.toList.map ρ' := map_ops fun x hx => hρ x (by simp [Op.operands, Call.operands, hx])
    refine ⟨g, xs, ys, args', r, ?_, ?_, hcon, ?_, hw, hd, hnb⟩
    · rw [← hρ f (by simp [Op.operands, Call.operands])]; exact hf
    · rw [← hargs]; exact (pur_mono hs 64).2.1 _ _ hpur
    · rw [← hargs]; exact hown
  · rename_i t parts
    rw [← map_parts (ρ := ρ) (ρ' := ρ') fun x hx => hρ x (by simpa [Op.operands] using hx)]
    exact h
  · rcases h with ⟨h, hnb⟩ | ⟨ptr, blk, h, hd, hnb⟩
    · exact .inl ⟨by rw [← op0_congr hρ]; exact op0_mono hs h, hnb⟩
    · exact .inr ⟨ptr, blk, by rw [← op1_congr hρ]; exact h, hd, hnb⟩

end
end Go.Pv

/- The order's certificate; what the operations come to in the text's order. -/
namespace Go.Pv


def binding (o : Oper) (j : Nat) : Bool := o.after.any fun e => Region.binds .any e && e.on == j

def onlyN (f : St → Prop) : X → St → Prop
  | .normal, st => f st
  | _, _ => False

def slotsOf (o : Op) : List Tmp := o.operands.toList.filterMap fun | .tmp t => some t | _ => none

def dstAt (all : List Oper) (j : Nat) : Option Tmp := (all[j]?).bind (·.dst)

/-- One of the operations whose order is open. -/
def chkA (all : List Oper) (m i : Nat) : Bool :=
  match all[i]? with
  | none => false
  | some o =>
    kindA o.op && (match o.guard with
      | some (j, _) => decide (j < m) && binding o j
      | none => true) &&
    (List.range m).all fun j => match dstAt all j with
      | none => true
      | some s => (!(slotsOf o.op).contains s || binding o j) && (j == i || o.dst != some s)

/-- Edges lead back. -/
def chkBack : List Oper → Nat → Bool
  | [], _ => true
  | o :: l, i => (o.after.all fun e => !Region.binds .any e || decide (e.on < i)) && chkBack l (i + 1)

def omask (acc : List Nat) (o : Oper) : Nat := o.after.foldl (fun s e => if Region.binds .any e then s ||| 2 ^ e.on ||| acc.getD e.on 0 else s) 0
def masks : List Oper → List Nat → List Nat
  | [], acc => acc
  | o :: l, acc => masks l (acc ++ [omask acc o])

/-- From k on each operation is behind all before it. -/
def chkLine (all : List Oper) (m : Nat) : Bool :=
  let ms := masks all []
  (List.range all.length).all fun k => decide (k < m) || ms.getD k 0 == 2 ^ k - 1

def chkDraw (all : List Oper) (m : Nat) : Bool := decide (m ≤ all.length) && chkBack all 0 && chkLine all m && (List.range m).all (chkA all m)

/-- j is before i in every order. -/
inductive TB (all : List Oper) : Nat → Nat → Prop
  | step (i : Nat) (o : Oper) (e : Edge) (ho : all[i]? = some o) (he : e ∈ o.after) (hb : Region.binds .any e = true) : TB all e.on i
  | more (i j : Nat) (o : Oper) (e : Edge) (ho : all[i]? = some o) (he : e ∈ o.after) (hb : Region.binds .any e = true) (h : TB all j e.on) : TB all j i

theorem foldl_mask {acc : List Nat} {p : Nat → Edge → Prop} : ∀ (es : List Edge) (s : Nat) (j : Nat), (es.foldl (fun s e => if Region.binds .any e then s ||| 2 ^ e.on ||| acc.getD e.on 0 else s) s).testBit j = true →
    s.testBit j = true ∨ ∃ e ∈ es, Region.binds .any e = true ∧ (e.on = j ∨ (acc.getD e.on 0).testBit j = true)
  | [], s, j, h => .inl h
  | e :: es, s, j, h => by
    rw [List.foldl_cons] at h
    rcases foldl_mask (p := p) es _ j h with h | ⟨e', he, h⟩
    · split at h
      · rename_i hb
        simp only [Nat.testBit_or, Bool.or_eq_true, Nat.testBit_two_pow] at h
        rcases h with (h | h) | h
        · exact .inl h
        · exact .inr ⟨e, by simp, hb, .inl (by simpa using h)⟩
        · exact .inr ⟨e, by simp, hb, .inr h⟩
      · exact .inl h
    · exact .inr ⟨e', by simp [he], h⟩

theorem masks_spec {all : List Oper} : ∀ (l : List Oper) (acc : List Nat), (∀ k, l[k]? = all[acc.length + k]?) →
    (∀ i j, (acc.getD i 0).testBit j = true → TB all j i) → ∀ i j, ((masks l acc).getD i 0).testBit j = true → TB all j i
  | [], acc, hl, h, i, j, ht => h i j ht
  | o :: l, acc, hl, h, i, j, ht => by
    refine masks_spec l (acc ++ [omask acc o]) (fun k => ?_) (fun i j ht => ?_) i j ht
    · have := hl (k + 1)
      simp only [List.getElem?_cons_succ] at this
      rw [this]
      simp [Nat.add_assoc, Nat.add_comm 1 k]
    · rw [List.getD_eq_getElem?_getD, List.getElem?_append] at ht
      split at ht
      · exact h i j (by rw [List.getD_eq_getElem?_getD]; exact ht)
      · rename_i hi
        by_cases he : i = acc.length
        · subst he
          simp only [Nat.sub_self, List.getElem?_cons_zero, Option.getD_some] at ht
          have ho : all[acc.length]? = some o := by have := hl 0; simpa using this.symm
          unfold omask at ht
          rw [← Array.foldl_toList] at ht
          rcases foldl_mask (p := fun _ _ => True) o.after.toList 0 j ht with h0 | ⟨e, he, hb, hj | hj⟩
          · simp at h0
          · subst hj
            exact .step _ o e ho (by simpa using he) hb
          · exact .more _ j o e ho (by simpa using he) hb (h _ _ hj)
        · rw [List.getElem?_eq_none (by simp; omega)] at ht
          simp at ht

theorem chkLine_spec {all : List Oper} {m : Nat} (h : chkLine all m = true) {k j : Nat} (hm : m ≤ k) (hk : k < all.length) (hj : j < k) : TB all j k := by
  unfold chkLine at h
  simp only [List.all_eq_true, List.mem_range, Bool.or_eq_true, decide_eq_true_eq, beq_iff_eq] at h
  rcases h k hk with h | h
  · omega
  · refine masks_spec all [] (by simp) (fun i j h => by simp at h) k j ?_
    rw [h]
    simp [Nat.testBit_two_pow_sub_one, hj]

theorem chkBack_spec : ∀ {l : List Oper} {n : Nat}, chkBack l n = true → ∀ {i : Nat} {o : Oper} {e : Edge}, l[i]? = some o → e ∈ o.after → Region.binds .any e = true → e.on < n + i
  | [], n, _, i, o, e, ho, _, _ => by simp at ho
  | o' :: l, n, h, i, o, e, ho, he, hb => by
    simp only [chkBack, Bool.and_eq_true] at h
    cases i with
    | zero =>
      simp at ho
      subst ho
      have := (Array.all_eq_true'.1 h.1) e he
      rw [hb] at this
      simpa using this
    | succ i =>
      have := chkBack_spec h.2 (i := i) (by simpa using ho) he hb
      omega

theorem binding_spec {o : Oper} {j : Nat} (h : binding o j = true) : ∃ e ∈ o.after, Region.binds .any e = true ∧ e.on = j := by
  unfold binding at h
  obtain ⟨i, hi, h⟩ := Array.any_eq_true.1 h
  simp only [Bool.and_eq_true, beq_iff_eq] at h
  exact ⟨_, Array.getElem_mem hi, h.1, h.2⟩

section
variable (all : List Oper) (env0 : Env) (hp0 : Hp) (dv : Nat → D) (nb : Nat → Hp)

/-- The slots and blocks behind the first i operations, in the text's order. -/
def envAt : Nat → Env
  | 0 => env0
  | i + 1 => putE (dstAt all i) (dv i) (envAt i)
def hpAt : Nat → Hp
  | 0 => hp0
  | i + 1 => nb i ++ hpAt i

end

/-- An operation in the text's order. -/
def Ran (P : Program) (all : List Oper) (o : Oper) (id : Nat) (env : Env) (hp : Nat → Option Blk) (d : D) (nb : Hp) : Prop :=
  match o.guard with
  | none => OpA P (evalD env) hp id o.op d nb
  | some (j, want) => ∃ r, guardD all env j = some r ∧ if r = some want then OpA P (evalD env) hp id o.op d nb else d = .skip ∧ nb = []

section
variable {P : Program} {all : List Oper} {env0 : Env} {hp0 : Hp} {dv dv' : Nat → D} {nb nb' : Nat → Hp} {id0 m : Nat}

theorem envAt_congr : ∀ {i : Nat}, (∀ j, j < i → dv j = dv' j) → envAt all env0 dv i = envAt all env0 dv' i
  | 0, _ => rfl
  | i + 1, h => by simp only [envAt]; rw [envAt_congr fun j hj => h j (by omega), h i (by omega)]

theorem hpAt_congr : ∀ {i : Nat}, (∀ j, j < i → nb j = nb' j) → hpAt hp0 nb i = hpAt hp0 nb' i
  | 0, _ => rfl
  | i + 1, h => by simp only [hpAt]; rw [hpAt_congr fun j hj => h j (by omega), h i (by omega)]

theorem lkE_putE (dst : Option Tmp) (d : D) (env : Env) (s : Nat) : lkE (putE dst d env) s = if dst = some s then d else lkE env s := by
  cases dst with
  | none => simp [putE]
  | some t =>
    simp only [putE, lkE]
    by_cases h : s = t
    · subst h; simp
    · rw [if_neg h, if_neg (by simpa using Ne.symm h)]

theorem envAt_other {s : Nat} : ∀ {i : Nat}, (∀ j, j < i → dstAt all j ≠ some s) → lkE (envAt all env0 dv i) s = lkE env0 s
  | 0, _ => rfl
  | i + 1, h => by
    simp only [envAt, lkE_putE]
    rw [if_neg (h i (by omega))]
    exact envAt_other fun j hj => h j (by omega)

theorem envAt_dst {s j : Nat} (hj : dstAt all j = some s) : ∀ {i : Nat}, j < i → (∀ k, k < i → k ≠ j → dstAt all k ≠ some s) → lkE (envAt all env0 dv i) s = dv j
  | 0, h, _ => by omega
  | i + 1, h, hd => by
    simp only [envAt, lkE_putE]
    by_cases he : i = j
    · subst he; rw [if_pos hj]
    · rw [if_neg (hd i (by omega) he)]
      exact envAt_dst hj (by omega) fun k hk => hd k (by omega)

theorem OpA_range {ρ : Operand → D} {hp : Nat → Option Blk} {id : Nat} {o : Op} {d : D} {nb : Hp} (h : OpA P ρ hp id o d nb) {b : Nat} (hb : (lkH nb b).isSome) : id ≤ b ∧ b < id + 32 := by
  unfold OpA at h
  split at h
  · obtain ⟨g, xs, ys, args', r, hf, hpur, hcon, hown, hw, hd, rfl⟩ := h
    have := adopt_range hb
    omega
  · rw [h.2] at hb; cases hb
  · rcases h with ⟨_, rfl⟩ | ⟨ptr, blk, _, _, rfl⟩
    · cases hb
    · simp only [lkH] at hb
      split at hb
      · omega
      · cases hb

theorem adC_flat {d : D} {n b : Nat} {blk : Blk} (h : lkH (adC n d).2 b = some blk) : blk.flat = true → flatRows blk.rows = true := by
  cases d <;> simp only [adC, lkH] at h <;> try cases h
  split at h
  · injection h with h; subst h; exact id
  · cases h

theorem adL_flat : ∀ {ds : List D} {n b : Nat} {blk : Blk}, lkH (adL n ds).2 b = some blk → blk.flat = true → flatRows blk.rows = true
  | [], n, b, blk, h => by simp [adL, lkH] at h
  | d :: ds, n, b, blk, h => by
    simp only [adL, lkH_append, Option.or_eq_some_iff] at h
    rcases h with h | ⟨_, h⟩
    · exact adC_flat h
    · exact adL_flat h

theorem adE_flat {d : D} {n b : Nat} {blk : Blk} (h : lkH (adE n d).2 b = some blk) : blk.flat = true → flatRows blk.rows = true := by
  cases d with
  | agg cs => exact adL_flat h
  | _ => exact adC_flat h

theorem adT_flat : ∀ {ds : List D} {n b : Nat} {blk : Blk}, lkH (adT n ds).2 b = some blk → blk.flat = true → flatRows blk.rows = true
  | [], n, b, blk, h => by simp [adT, lkH] at h
  | d :: ds, n, b, blk, h => by
    simp only [adT, lkH_append, Option.or_eq_some_iff] at h
    rcases h with h | ⟨_, h⟩
    · exact adE_flat h
    · exact adT_flat h

theorem adopt_flat {d : D} {n b : Nat} {blk : Blk} (h : lkH (adopt n d).2 b = some blk) : blk.flat = true → flatRows blk.rows = true := by
  cases d with
  | tup cs => exact adT_flat h
  | _ => exact adE_flat h

theorem OpA_flat {ρ : Operand → D} {hp : Nat → Option Blk} {id : Nat} {o : Op} {d : D} {nb : Hp} (h : OpA P ρ hp id o d nb) {b : Nat} {blk : Blk} (hb : lkH nb b = some blk) : blk.flat = true → flatRows blk.rows = true := by
  unfold OpA at h
  split at h
  · obtain ⟨g, xs, ys, args', r, hf, hpur, hcon, hown, hw, hd, rfl⟩ := h
    exact adopt_flat hb
  · rw [h.2] at hb; cases hb
  · rcases h with ⟨_, rfl⟩ | ⟨ptr, blk, hop, _, rfl⟩
    · cases hb
    · simp only [lkH] at hb
      split at hb
      · injection hb with hb; subst hb; exact op1_flat hop
      · cases hb

theorem Ran_cases {o : Oper} {id : Nat} {env : Env} {hp : Nat → Option Blk} {d : D} {nb : Hp} (h : Ran P all o id env hp d nb) : OpA P (evalD env) hp id o.op d nb ∨ nb = [] := by
  unfold Ran at h
  split at h
  · exact .inl h
  · obtain ⟨r, _, h⟩ := h
    split at h
    · exact .inl h
    · exact .inr h.2

theorem Ran_range {o : Oper} {id : Nat} {env : Env} {hp : Nat → Option Blk} {d : D} {nb : Hp} (h : Ran P all o id env hp d nb) {b : Nat} (hb : (lkH nb b).isSome) : id ≤ b ∧ b < id + 32 := by
  rcases Ran_cases h with h | rfl
  · exact OpA_range h hb
  · cases hb

/-- What the text's order says of the first operations. -/
structure Trace (P : Program) (all : List Oper) (m : Nat) (env0 : Env) (hp0 : Hp) (id0 : Nat) (n : Nat) (dv : Nat → D) (nb : Nat → Hp) : Prop where
  ran : ∀ (i : Nat) (o : Oper), i < m → all[i]? = some o → Ran P all o (id0 + 32 * i) (envAt all env0 dv i) (lkH (hpAt hp0 nb i)) (dv i) (nb i)
  dst : ∀ (i : Nat), i < m → okDst n (dstAt all i) = true

theorem evOps_trace {K : X → St → Prop} {n : Nat} (hlen : m ≤ all.length) (hkind : ∀ i o, i < m → all[i]? = some o → kindA o.op = true) : ∀ (r i : Nat) (dv : Nat → D) (nb : Nat → Hp) (st : St), i + r = m → st.env = envAt all env0 dv i → st.hp = hpAt hp0 nb i → st.n = n →
    (∀ (j : Nat) (o : Oper), j < i → all[j]? = some o → Ran P all o (id0 + 32 * j) (envAt all env0 dv j) (lkH (hpAt hp0 nb j)) (dv j) (nb j)) → (∀ j, j < i → okDst n (dstAt all j) = true) →
    evOps P all ((all.drop i).take r) (id0 + 32 * i) st (onlyN (K .normal)) →
    ∃ dv nb, Trace P all m env0 hp0 id0 n dv nb ∧ K .normal ⟨envAt all env0 dv m, hpAt hp0 nb m, id0 + 32 * m, n⟩
  | 0, i, dv, nb, st, hi, he, hh, hn, hr, hd, h => by
    simp only [Nat.add_zero] at hi
    subst hi
    refine ⟨dv, nb, ⟨hr, hd⟩, ?_⟩
    simp only [List.take_zero, evOps] at h
    rw [← he, ← hh, ← hn]
    exact h
  | r + 1, i, dv, nb, st, hi, he, hh, hn, hr, hd, h => by
    have hlt : i < all.length := by omega
    have ho : all[i]? = some all[i] := List.getElem?_eq_getElem hlt
    have hcons : (all.drop i).take (r + 1) = all[i] :: (all.drop (i + 1)).take r := by
      rw [List.drop_eq_getElem_cons hlt, List.take_succ_cons]
    have hdst : dstAt all i = all[i].dst := by simp [dstAt, ho]
    rw [hcons] at h
    have key : ∀ (d : D) (nbi : Hp), Ran P all all[i] (id0 + 32 * i) st.env (lkH st.hp) d nbi → okDst st.n all[i].dst = true →
        evOps P all ((all.drop (i + 1)).take r) (id0 + 32 * i + 32) { st with env := putE all[i].dst d st.env, hp := nbi ++ st.hp } (onlyN (K .normal)) →
        ∃ dv nb, Trace P all m env0 hp0 id0 n dv nb ∧ K .normal ⟨envAt all env0 dv m, hpAt hp0 nb m, id0 + 32 * m, n⟩ := by
      intro d nbi h1 h2 h3
      let dv1 : Nat → D := fun j => if j = i then d else dv j
      let nb1 : Nat → Hp := fun j => if j = i then nbi else nb j
      have e1 : ∀ k, k ≤ i → envAt all env0 dv1 k = envAt all env0 dv k := fun k hk => envAt_congr fun j hj => if_neg (by omega)
      have e2 : ∀ k, k ≤ i → hpAt hp0 nb1 k = hpAt hp0 nb k := fun k hk => hpAt_congr fun j hj => if_neg (by omega)
      refine evOps_trace hlen hkind r (i + 1) dv1 nb1 { st with env := putE all[i].dst d st.env, hp := nbi ++ st.hp } (by omega) ?_ ?_ hn (fun j o hj hoj => ?_) (fun j hj => ?_) (by rw [show id0 + 32 * (i + 1) = id0 + 32 * i + 32 by omega]; exact h3)
      · simp only [envAt, e1 i (Nat.le_refl _), hdst, ← he]
        simp [dv1]
      · simp only [hpAt, e2 i (Nat.le_refl _), ← hh]
        simp [nb1]
      · by_cases hji : j = i
        · subst hji
          rw [ho] at hoj
          injection hoj with hoj; subst hoj
          rw [e1 j (Nat.le_refl _), e2 j (Nat.le_refl _), ← he, ← hh]
          simpa [dv1, nb1] using h1
        · rw [e1 j (by omega), e2 j (by omega)]
          simpa [dv1, nb1, hji] using hr j o (by omega) hoj
      · by_cases hji : j = i
        · subst hji; rw [hdst, ← hn]; exact h2
        · exact hd j (by omega)
    have hrun : evOp P all[i].op (id0 + 32 * i) all[i].dst st (fun x st' => match x with
        | .normal => evOps P all ((all.drop (i + 1)).take r) (id0 + 32 * i + 32) st' (onlyN (K .normal))
        | x => onlyN (K .normal) x st') →
        ∃ d nbi, OpA P (evalD st.env) (lkH st.hp) (id0 + 32 * i) all[i].op d nbi ∧ okDst st.n all[i].dst = true ∧
          evOps P all ((all.drop (i + 1)).take r) (id0 + 32 * i + 32) { st with env := putE all[i].dst d st.env, hp := nbi ++ st.hp } (onlyN (K .normal)) := by
      intro h
      rcases evOp_A (hkind i _ (by omega) ho) h with ⟨d, nbi, h1, h2, h3⟩ | ⟨d, h⟩
      · exact ⟨d, nbi, h1, h2, h3⟩
      · exact h.elim
    unfold evOps at h
    simp only at h
    split at h
    · rename_i hg
      obtain ⟨d, nbi, h1, h2, h3⟩ := hrun h
      exact key d nbi (by unfold Ran; rw [hg]; exact h1) h2 h3
    · rename_i j want hg
      split at h
      · rename_i b hgd
        by_cases hb : b = want
        · obtain ⟨d, nbi, h1, h2, h3⟩ := hrun (h.1 hb)
          refine key d nbi ?_ h2 h3
          unfold Ran
          rw [hg]
          exact ⟨_, hgd, by rw [if_pos (by rw [hb])]; exact h1⟩
        · obtain ⟨h1, h2⟩ := h.2 (by cases b <;> cases want <;> simp_all)
          refine key .skip [] ?_ h1 h2
          unfold Ran
          rw [hg]
          exact ⟨_, hgd, by rw [if_neg (by simpa using hb)]; exact ⟨rfl, rfl⟩⟩
      · rename_i hgd
        obtain ⟨h1, h2⟩ := h
        refine key .skip [] ?_ h1 h2
        unfold Ran
        rw [hg]
        exact ⟨_, hgd, by rw [if_neg (by simp)]; exact ⟨rfl, rfl⟩⟩
      · exact h.elim

end
end Go.Pv

/- Regions whose order is open: the game. -/
namespace Go.Pv


/-- The listed operations of the first m have run, in whatever order. -/
def G (w0 : World) (S : Frm) (all : List Oper) (m id0 n : Nat) (dv : Nat → D) (nb : Nat → Hp) (E : Env) (hp : Nat → Option Blk) (L : Nat → Bool) (a : Act) (w : World) : Prop :=
  ∃ (pu : Nat → Prop) (ow : Nat → Ow), Mem w0.heap.size w pu ow hp ∧
    (∀ j s, j < m → L j = true → dstAt all j = some s → Rep w pu ow (a.tmps.getD s undef) (dv j)) ∧
    (∀ s, (∀ j, j < m → dstAt all j ≠ some s) → Rep w pu ow (a.tmps.getD s undef) (lkE E s)) ∧
    Below w0.heap.size w0 w ∧ (∀ g, pu g → S g ∨ w0.heap.size ≤ g) ∧
    (∀ j b, j < m → L j = false → (lkH (nb j) b).isSome → ow b = .pending) ∧ (∀ b, id0 + 32 * m ≤ b → ow b = .pending) ∧ a.tmps.size = n ∧ a.defers = [] ∧ Kp S w pu ow

structure ChkA (all : List Oper) (m i : Nat) (o : Oper) : Prop where
  kind : kindA o.op = true
  guard : ∀ j want, o.guard = some (j, want) → j < m ∧ binding o j = true
  slot : ∀ j s, j < m → dstAt all j = some s → s ∈ slotsOf o.op → binding o j = true
  dst : ∀ j s, j < m → j ≠ i → dstAt all j = some s → o.dst ≠ some s

theorem chkA_spec {all : List Oper} {m i : Nat} (h : chkA all m i = true) : ∃ o, all[i]? = some o ∧ ChkA all m i o := by
  unfold chkA at h
  split at h
  · cases h
  · rename_i o ho
    simp only [Bool.and_eq_true, List.all_eq_true, List.mem_range] at h
    obtain ⟨⟨h1, h2⟩, h3⟩ := h
    refine ⟨o, ho, h1, fun j want hg => ?_, fun j s hj hd hs => ?_, fun j s hj hji hd hds => ?_⟩
    · rw [hg] at h2
      simpa using h2
    · have := h3 j hj
      rw [hd] at this
      simp only [Bool.and_eq_true, Bool.or_eq_true, Bool.not_eq_true', List.contains_eq_mem, decide_eq_false_iff_not] at this
      rcases this.1 with h | h
      · exact (h hs).elim
      · exact h
    · have := h3 j hj
      rw [hd] at this
      simp only [Bool.and_eq_true, Bool.or_eq_true, beq_iff_eq, bne_iff_ne] at this
      rcases this.2 with h | h
      · exact hji h
      · exact h hds

theorem lkE_restr (f : Nat → D) : ∀ (sl : List Nat) (s : Nat), lkE (sl.map fun s => (s, f s)) s = if s ∈ sl then f s else .undef
  | [], s => rfl
  | t :: sl, s => by
    simp only [List.map_cons, lkE, List.mem_cons]
    by_cases h : s = t
    · subst h; simp
    · rw [if_neg h, lkE_restr f sl s]
      simp [h]

theorem eval_restr {env : Env} {sl : List Nat} {o : Op} (hs : ∀ s ∈ slotsOf o, s ∈ sl) : ∀ x ∈ o.operands, evalD env x = evalD (sl.map fun s => (s, lkE env s)) x := by
  intro x hx
  cases x with
  | tmp t =>
    have : t ∈ sl := hs t (by
      unfold slotsOf
      exact List.mem_filterMap.2 ⟨.tmp t, by simpa using hx, rfl⟩)
    simp only [evalD, lkE_restr, if_pos this]
  | _ => rfl

section
variable {P : Program} {w w0 : World} {S : Frm} {all : List Oper} {m id0 n : Nat} {dv : Nat → D} {nb : Nat → Hp} {E env0 : Env} {hp : Nat → Option Blk} {L : Nat → Bool} {a : Act} {Q : Exit → Act → World → Prop}

theorem guardD_congr {env env' : Env} {j : Nat} (h : ∀ s, dstAt all j = some s → lkE env s = lkE env' s) : guardD all env j = guardD all env' j := by
  unfold guardD
  unfold dstAt at h
  split
  · rename_i s hs
    rw [h s hs]
  · rfl

theorem G_step {i : Nat} {o : Oper} {K : Act → World → Prop} (hG : G w0 S all m id0 n dv nb E hp L a w) (ho : all[i]? = some o) (hc : ∀ i, i < m → ∃ o, all[i]? = some o ∧ ChkA all m i o) (hi : i < m)
    (hL : L i = false) (hpre : ∀ j, binding o j = true → L j = true ∧ j < i) (hE : ∀ s, (∀ j, j < m → dstAt all j ≠ some s) → s ∈ slotsOf o.op → lkE E s = lkE (envAt all env0 dv i) s)
    (hran : Ran P all o (id0 + 32 * i) (envAt all env0 dv i) hp (dv i) (nb i)) (hnb : ∀ b blk, lkH (nb i) b = some blk → hp b = some blk)
    (hdj : ∀ j, j < m → j ≠ i → ∀ b, (lkH (nb j) b).isSome → lkH (nb i) b = none) (hbig : ∀ b, id0 + 32 * m ≤ b → lkH (nb i) b = none) (hdst : okDst n (dstAt all i) = true)
    (hK : ∀ a' w', G w0 S all m id0 n dv nb E hp (fun j => if j = i then true else L j) a' w' → K a' w') : wpOp P all.toArray Q i K a w := by
  obtain ⟨pu, ow, hm, c1, c2, hb, hz, hp1, hp2, hs, hd⟩ := hG
  obtain ⟨o', ho', hca⟩ := hc i hi
  rw [ho] at ho'
  injection ho' with ho'; subst ho'
  have hod : dstAt all i = o.dst := by simp [dstAt, ho]
  have uniq : ∀ j k s, j < m → k < m → k ≠ j → dstAt all j = some s → dstAt all k ≠ some s := by
    intro j k s hj hk hkj hjs hks
    obtain ⟨oj, hoj, hcj⟩ := hc j hj
    exact hcj.dst k s hk hkj hks (by simpa [dstAt, hoj] using hjs)
  have key : ∀ j s, j < m → binding o j = true → dstAt all j = some s → Rep w pu ow (a.tmps.getD s undef) (lkE (envAt all env0 dv i) s) := by
    intro j s hj hbj hjs
    obtain ⟨h1, h2⟩ := hpre j hbj
    rw [envAt_dst hjs h2 fun k hk hkj => uniq j k s hj (by omega) hkj hjs]
    exact c1 j s hj h1 hjs
  let gsl : List Nat := match o.guard with
    | some (j, _) => (dstAt all j).toList
    | none => []
  let E' : Env := (slotsOf o.op ++ gsl).map fun s => (s, lkE (envAt all env0 dv i) s)
  have he : EnvOK w pu ow E' a := by
    intro s
    simp only [E', lkE_restr]
    split
    · rename_i hsl
      by_cases hex : ∃ j, j < m ∧ dstAt all j = some s
      · obtain ⟨j, hj, hjs⟩ := hex
        simp only [List.mem_append] at hsl
        rcases hsl with hsl | hsl
        · exact key j s hj (hca.slot j s hj hjs hsl) hjs
        · simp only [gsl] at hsl
          split at hsl
          · rename_i j' want hg
            obtain ⟨h1, h2⟩ := hca.guard j' want hg
            exact key j' s h1 h2 (by simpa using hsl)
          · simp at hsl
      · have hno : ∀ j, j < m → dstAt all j ≠ some s := fun j hj h => hex ⟨j, hj, h⟩
        rw [← hE s hno]
        · exact c2 s hno
        · simp only [List.mem_append] at hsl
          rcases hsl with hsl | hsl
          · exact hsl
          · simp only [gsl] at hsl
            split at hsl
            · rename_i j' want hg
              obtain ⟨h1, h2⟩ := hca.guard j' want hg
              exact (hno j' h1 (by simpa using hsl)).elim
            · simp at hsl
    · exact .pure _ _ (.undef _)
  have skip : dv i = .skip → nb i = [] → K (a.put o.dst undef) w := by
    intro h1 h2
    refine hK _ _ ⟨pu, ow, hm, fun j s hj hLj hjs => ?_, fun s hno => ?_, hb, hz, fun j b hj hLj hbj => ?_, hp2, by rw [put_size]; exact hs, by rw [put_defers]; exact hd.1, hd.2⟩
    · by_cases hji : j = i
      · subst hji
        rw [h1]
        rw [hod] at hjs hdst
        rw [hjs] at hdst ⊢
        simp only [okDst, decide_eq_true_eq] at hdst
        rw [put_get (by rw [hs]; exact hdst), if_pos rfl]
        exact .pure _ _ .skip
      · simp only [if_neg hji] at hLj
        have := c1 j s hj hLj hjs
        cases hdd : o.dst with
        | none => exact this
        | some t =>
          rw [hod, hdd] at hdst
          simp only [okDst, decide_eq_true_eq] at hdst
          rw [put_get (by rw [hs]; exact hdst), if_neg]
          · exact this
          · rintro rfl
            exact hca.dst j s hj hji hjs hdd
    · have := c2 s hno
      cases hdd : o.dst with
      | none => exact this
      | some t =>
        rw [hod, hdd] at hdst
        simp only [okDst, decide_eq_true_eq] at hdst
        rw [put_get (by rw [hs]; exact hdst), if_neg]
        · exact this
        · rintro rfl
          exact hno i hi (by rw [hod, hdd])
    · by_cases hji : j = i
      · subst hji; simp at hLj
      · simp only [if_neg hji] at hLj
        exact hp1 j b hj hLj hbj
  have run : OpA P (evalD (envAt all env0 dv i)) hp (id0 + 32 * i) o.op (dv i) (nb i) → o.wp P a w K Q := by
    intro hop
    have hop' := OpA_mono (hq := hp) (fun b blk h => h) (eval_restr (sl := slotsOf o.op ++ gsl) (env := envAt all env0 dv i) (fun s hs => by simp [hs])) hop
    refine opA_ok (hq := hp) hm hb.size he.eval hop' (fun b => ?_) (fun b hbs => hp1 i b hi hL hbs) fun v w' pu' ow' m1 m2 m3 m4 m5 m6 => ?_
    · cases hl : lkH (nb i) b with
      | none => simp
      | some blk => rw [hnb b blk hl]; simp
    · refine hK _ _ ⟨pu', ow', m1, fun j s hj hLj hjs => ?_, fun s hno => ?_, hb.trans (m4.mono hb.size), fun g hg => ?_, fun j b hj hLj hbj => ?_, fun b hbb => ?_, by rw [put_size]; exact hs, by rw [put_defers]; exact hd.1, hd.2.step m2 fun b => ?_⟩
      · by_cases hji : j = i
        · subst hji
          rw [hod] at hjs hdst
          rw [hjs] at hdst ⊢
          simp only [okDst, decide_eq_true_eq] at hdst
          rw [put_get (by rw [hs]; exact hdst), if_pos rfl]
          exact m3
        · simp only [if_neg hji] at hLj
          have := (c1 j s hj hLj hjs).mono m2
          cases hdd : o.dst with
          | none => exact this
          | some t =>
            rw [hod, hdd] at hdst
            simp only [okDst, decide_eq_true_eq] at hdst
            rw [put_get (by rw [hs]; exact hdst), if_neg]
            · exact this
            · rintro rfl
              exact hca.dst j s hj hji hjs hdd
      · have := (c2 s hno).mono m2
        cases hdd : o.dst with
        | none => exact this
        | some t =>
          rw [hod, hdd] at hdst
          simp only [okDst, decide_eq_true_eq] at hdst
          rw [put_get (by rw [hs]; exact hdst), if_neg]
          · exact this
          · rintro rfl
            exact hno i hi (by rw [hod, hdd])
      · rcases m5 g hg with h | h
        · exact hz g h
        · exact .inr (Nat.le_trans hb.size h)
      · by_cases hji : j = i
        · subst hji; simp at hLj
        · simp only [if_neg hji] at hLj
          rw [m6 b (hdj j hj hji b hbj)]
          exact hp1 j b hj hLj hbj
      · rw [m6 b (hbig b hbb)]
        exact hp2 b hbb
      · cases hl : lkH (nb i) b with
        | none => exact .inr (m6 b hl)
        | some blk => exact .inl (hp1 i b hi hL (by rw [hl]; rfl))
  unfold wpOp
  simp only [List.getElem?_toArray, ho]
  unfold Ran at hran
  cases hg : o.guard with
  | none =>
    rw [hg] at hran
    rw [if_pos (by simp [Region.wanted, hg])]
    exact .inl (run hran)
  | some jw =>
    obtain ⟨j, want⟩ := jw
    rw [hg] at hran
    simp only at hran
    obtain ⟨r, hgd, hran⟩ := hran
    have hgd' : guardD all E' j = some r := by
      rw [← hgd]
      refine guardD_congr fun s hs => ?_
      simp only [E', lkE_restr]
      rw [if_pos]
      simp only [List.mem_append]
      right
      simp [gsl, hg, hs]
    have hy := guard_ok he hgd'
    by_cases hr : r = some want
    · rw [if_pos hr] at hran
      rw [if_pos (by simp [Region.wanted, hg, hy, hr])]
      exact .inl (run hran)
    · rw [if_neg hr] at hran
      rw [if_neg (by simpa [Region.wanted, hg, hy] using hr)]
      exact skip hran.1 hran.2

end
end Go.Pv

/- Regions whose order is open: all of them. -/
namespace Go.Pv


def cnt : Nat → (Nat → Bool) → Nat
  | 0, _ => 0
  | n + 1, L => cnt n L + if L n then 0 else 1

theorem cnt_zero : ∀ {n : Nat} {L : Nat → Bool}, cnt n L = 0 → ∀ i, i < n → L i = true
  | 0, _, _, i, hi => by omega
  | n + 1, L, h, i, hi => by
    simp only [cnt] at h
    by_cases hL : L n = true
    · rw [if_pos hL] at h
      rcases Nat.lt_succ_iff_lt_or_eq.1 hi with h' | rfl
      · exact cnt_zero (by omega) i h'
      · exact hL
    · rw [if_neg hL] at h; omega

theorem cnt_same : ∀ {n : Nat} {L L' : Nat → Bool}, (∀ i, i < n → L i = L' i) → cnt n L = cnt n L'
  | 0, _, _, _ => rfl
  | n + 1, L, L', h => by simp only [cnt]; rw [cnt_same fun i hi => h i (by omega), h n (by omega)]

theorem cnt_set : ∀ {n i : Nat} {L L' : Nat → Bool}, i < n → L i = false → L' i = true → (∀ j, j ≠ i → L' j = L j) → cnt n L' + 1 = cnt n L
  | 0, i, _, _, h, _, _, _ => by omega
  | n + 1, i, L, L', hi, h1, h2, h3 => by
    simp only [cnt]
    by_cases he : i = n
    · subst he
      rw [h1, h2, cnt_same (L := L') (L' := L) fun j hj => h3 j (by omega)]
      simp
    · have := cnt_set (n := n) (by omega) h1 h2 h3
      rw [h3 n (by omega)]
      omega

section
variable {P : Program} {w w0 : World} {S : Frm} {all : List Oper} {m id0 n : Nat} {a : Act} {Q : Exit → Act → World → Prop}

def Closed (all : List Oper) (L : Nat → Bool) : Prop := ∀ i o e, L i = true → all[i]? = some o → e ∈ o.after → Region.binds .any e = true → L e.on = true

theorem Closed.tb {L : Nat → Bool} (hc : Closed all L) {i j : Nat} (h : TB all j i) : L i = true → L j = true := by
  induction h with
  | step i o e ho he hb => exact fun hi => hc i o e hi ho he hb
  | more i j o e ho he hb _ ih => exact fun hi => ih (hc i o e hi ho he hb)

theorem tb_ready {L : Nat → Bool} (hc : Closed all L) {i j : Nat} {o : Oper} (ho : all[i]? = some o) (hr : ∀ e ∈ o.after, Region.binds .any e = true → L e.on = true) (h : TB all j i) : L j = true := by
  cases h with
  | step i o' e ho' he hb => rw [ho] at ho'; injection ho' with ho'; subst ho'; exact hr e he hb
  | more i j o' e ho' he hb h => rw [ho] at ho'; injection ho' with ho'; subst ho'; exact hc.tb h (hr e he hb)

theorem mem_ready {listed : Array Bool} {i : Nat} : i ∈ Region.ready .any all.toArray listed ↔ i < all.length ∧ listed.getD i true = false ∧ ∃ o, all[i]? = some o ∧ ∀ e ∈ o.after, Region.binds .any e = true → listed.getD e.on false = true := by
  unfold Region.ready
  simp only [List.mem_filter, List.mem_range, Bool.and_eq_true, Bool.not_eq_true', List.getElem?_toArray, List.size_toArray]
  constructor
  · rintro ⟨h1, h2, h3⟩
    refine ⟨h1, h2, all[i], List.getElem?_eq_getElem h1, fun e he hb => ?_⟩
    rw [List.getElem?_eq_getElem h1] at h3
    simp only [Option.map_some, Option.getD_some] at h3
    have := (Array.all_eq_true'.1 h3) e he
    rw [hb] at this
    simpa using this
  · rintro ⟨h1, h2, o, ho, h3⟩
    refine ⟨h1, h2, ?_⟩
    rw [ho]
    simp only [Option.map_some, Option.getD_some]
    refine Array.all_eq_true'.2 fun e he => ?_
    cases hb : Region.binds .any e with
    | false => rfl
    | true => rw [h3 e he hb]; rfl

theorem getD_tf {listed : Array Bool} {i : Nat} (hi : i < listed.size) : listed.getD i true = listed.getD i false := by
  simp [Array.getD_eq_getD_getElem?, hi]

theorem set_getD {listed : Array Bool} {i j : Nat} (hi : i < listed.size) : (listed.setIfInBounds i true).getD j false = if j = i then true else listed.getD j false := by
  simp only [Array.getD_eq_getD_getElem?, Array.getElem?_setIfInBounds]
  by_cases h : i = j
  · subst h; simp [hi]
  · rw [if_neg h, if_neg (Ne.symm h)]

theorem ready_nil {listed : Array Bool} (hs : listed.size = all.length) (hb : chkBack all 0 = true) (hr : Region.ready .any all.toArray listed = []) : ∀ i, i < all.length → listed.getD i false = true := by
  intro i
  induction i using Nat.strongRecOn with
  | ind i ih =>
    intro hi
    cases hl : listed.getD i false with
    | true => rfl
    | false =>
      have : i ∈ Region.ready .any all.toArray listed := mem_ready.2 ⟨hi, by rw [getD_tf (by omega)]; exact hl, all[i], List.getElem?_eq_getElem hi, fun e he hbe => by
        have hlt := chkBack_spec hb (List.getElem?_eq_getElem hi) he hbe
        exact ih e.on (by omega) (by omega)⟩
      rw [hr] at this
      simp at this

/-- One order is left. -/
theorem line_ok (hb : chkBack all 0 = true) (hl : chkLine all m = true) : ∀ (rest : List Oper) (k fuel : Nat) (listed : Array Bool) (a : Act) (w : World), all.drop k = rest → m ≤ k → k ≤ all.length → listed.size = all.length →
    (∀ i, i < k → listed.getD i false = true) → (∀ i, k ≤ i → i < all.length → listed.getD i false = false) → rest.length ≤ fuel → wpList P all.toArray Q rest a w → wpAny P .any all.toArray Q fuel listed a w := by
  intro rest
  induction rest with
  | nil =>
    intro k fuel listed a w hd hm hk hs h1 h2 hf h
    have hkl : all.length ≤ k := by
      have := congrArg List.length hd
      simp at this
      omega
    have hr : Region.ready .any all.toArray listed = [] := List.eq_nil_iff_forall_not_mem.2 fun i hi => by
      obtain ⟨h3, h4, _⟩ := mem_ready.1 hi
      rw [getD_tf (by omega), h1 i (by omega)] at h4
      cases h4
    cases fuel with
    | zero => exact ⟨hr, h⟩
    | succ fuel => exact ⟨fun _ => h, fun i hi => by rw [hr] at hi; simp at hi⟩
  | cons o rest ih =>
    intro k fuel listed a w hd hm hk hs h1 h2 hf h
    cases fuel with
    | zero => simp at hf
    | succ fuel =>
      have hklt : k < all.length := by
        have := congrArg List.length hd
        simp at this
        omega
      rw [List.drop_eq_getElem_cons hklt] at hd
      injection hd with hd1 hd2
      have hok : all[k]? = some o := by rw [List.getElem?_eq_getElem hklt, hd1]
      refine ⟨fun hr => ?_, fun i hi => ?_⟩
      · have := ready_nil hs hb hr k hklt
        rw [h2 k (Nat.le_refl _) hklt] at this
        cases this
      · obtain ⟨h3, h4, o', ho', h5⟩ := mem_ready.1 hi
        rw [getD_tf (by omega)] at h4
        have hik : i = k := by
          rcases Nat.lt_trichotomy i k with h | h | h
          · rw [h1 i h] at h4; cases h4
          · exact h
          · have htb := chkLine_spec hl (k := i) (j := k) (by omega) h3 h
            have : listed.getD k false = true := by
              cases htb with
              | step _ o2 e ho2 he hbe => rw [ho'] at ho2; injection ho2 with ho2; subst ho2; exact h5 e he hbe
              | more _ _ o2 e ho2 he hbe h6 =>
                rw [ho'] at ho2; injection ho2 with ho2; subst ho2
                have h7 := h5 e he hbe
                have h8 := chkBack_spec hb ho' he hbe
                rcases Nat.lt_or_ge e.on k with h9 | h9
                · exfalso
                  have : ∀ {a b : Nat}, TB all a b → a < b := by
                    intro a b hab
                    induction hab with
                    | step i o e ho he hbe => have := chkBack_spec hb ho he hbe; omega
                    | more i j o e ho he hbe _ ih => have := chkBack_spec hb ho he hbe; omega
                  have := this h6
                  omega
                · rw [h2 e.on h9 (by omega)] at h7; cases h7
            rw [h2 k (Nat.le_refl _) hklt] at this
            cases this
        subst hik
        rw [hok] at ho'
        injection ho' with ho'; subst ho'
        have next : ∀ a w, wpList P all.toArray Q rest a w → wpAny P .any all.toArray Q fuel (listed.setIfInBounds i true) a w := fun a w h =>
          ih (i + 1) fuel _ a w hd2 (by omega) (by omega) (by simpa using hs) (fun j hj => by rw [set_getD (by omega)]; split; rfl; exact h1 j (by omega))
            (fun j hj hj' => by rw [set_getD (by omega), if_neg (by omega)]; exact h2 j (by omega) hj') (by simp at hf; omega) h
        unfold wpList at h
        unfold wpOp
        simp only [List.getElem?_toArray, hok]
        split at h
        · rename_i hw
          rw [if_pos hw]
          exact h.imp (Oper.wp_mono next) id
        · rename_i hw
          rw [if_neg hw]
          exact next _ _ h

theorem lkH_hpAt {hp0 : Hp} {nb : Nat → Hp} {b : Nat} : ∀ {i : Nat}, (lkH (hpAt hp0 nb i) b).isSome → (lkH hp0 b).isSome ∨ ∃ j, j < i ∧ (lkH (nb j) b).isSome
  | 0, h => .inl h
  | i + 1, h => by
    simp only [hpAt, lkH_append] at h
    cases hn : lkH (nb i) b with
    | some blk => exact .inr ⟨i, by omega, by rw [hn]; rfl⟩
    | none =>
      rw [hn] at h
      rcases lkH_hpAt (i := i) (by simpa using h) with h | ⟨j, hj, h⟩
      · exact .inl h
      · exact .inr ⟨j, by omega, h⟩

theorem lkH_isSome_mem : ∀ {hp : Hp} {b : Nat}, (lkH hp b).isSome → ∃ x ∈ hp, x.1 = b
  | [], b, h => by simp [lkH] at h
  | (k, d) :: hp, b, h => by
    simp only [lkH] at h
    split at h
    · rename_i hb; exact ⟨(k, d), by simp, hb.symm⟩
    · obtain ⟨x, hx, h⟩ := lkH_isSome_mem h
      exact ⟨x, by simp [hx], h⟩

theorem Mem.addPends {pu : Nat → Prop} {ow : Nat → Ow} {base : Nat} {hp hq : Nat → Option Blk} (hm : Mem base w pu ow hp) (h1 : ∀ b blk, hp b = some blk → hq b = some blk)
    (h2 : ∀ b blk, hq b = some blk → hp b = Option.none → ow b = .pending ∧ (blk.flat = true → flatRows blk.rows = true)) : Mem base w pu ow hq := by
  refine ⟨fun b blk hb => ?_, fun b hb => ?_, hm.injO, hm.ownO, hm.zone⟩
  · cases hpb : hp b with
    | some blk' =>
      have := h1 b blk' hpb
      rw [hb] at this
      injection this with this; subst this
      exact hm.blk b _ hpb
    | none =>
      obtain ⟨h3, h4⟩ := h2 b blk hb hpb
      rw [h3]
      exact ⟨h4, trivial⟩
  · cases hpb : hp b with
    | some blk' => rw [h1 b blk' hpb] at hb; cases hb
    | none => exact hm.none b hpb

/-- A region whose order is open. -/
def evDraw (P : Program) (all : List Oper) (m : Nat) (st : St) (K : X → St → Prop) : Prop :=
  (st.hp.all fun x => decide (x.1 < st.nx)) = true ∧
  evOps P all (all.take m) st.nx st (onlyN fun st' => evOps P all (all.drop m) st'.nx st' K)

theorem evDraw_ok {st : St} {K : X → St → Prop} (hNA : S.free ∨ ∀ o ∈ all, noApp o.op = true) (hc : chkDraw all m = true) (hi : InvI w0 S st.nx st a w) (h : evDraw P all m st K) : wpAny P .any all.toArray (Post w0 S K) all.length (Array.replicate all.length false) a w := by
  unfold chkDraw at hc
  simp only [Bool.and_eq_true, decide_eq_true_eq, List.all_eq_true, List.mem_range] at hc
  obtain ⟨⟨⟨hm, hback⟩, hline⟩, hA⟩ := hc
  have hA' : ∀ i, i < m → ∃ o, all[i]? = some o ∧ ChkA all m i o := fun i hi => chkA_spec (hA i hi)
  obtain ⟨hdom, h⟩ := h
  simp only [List.all_eq_true, decide_eq_true_eq] at hdom
  have hkind : ∀ i o, i < m → all[i]? = some o → kindA o.op = true := fun i o hi ho => by
    obtain ⟨o', ho', hc⟩ := hA' i hi
    rw [ho] at ho'; injection ho' with ho'; subst ho'
    exact hc.kind
  obtain ⟨dv, nb, htr, hK⟩ := evOps_trace (P := P) (all := all) (env0 := st.env) (hp0 := st.hp) (id0 := st.nx) (m := m) (K := fun _ st' => evOps P all (all.drop m) st'.nx st' K) hm hkind m 0 (fun _ => .undef) (fun _ => []) st (by omega) rfl rfl rfl
    (fun j o hj => by omega) (fun j hj => by omega) (by simpa using h)
  simp only at hK
  have hrange : ∀ j b, j < m → (lkH (nb j) b).isSome → st.nx + 32 * j ≤ b ∧ b < st.nx + 32 * j + 32 := fun j b hj hb => by
    obtain ⟨o, ho, _⟩ := hA' j hj
    exact Ran_range (htr.ran j o hj ho) hb
  have hhp0 : ∀ b, (lkH st.hp b).isSome → b < st.nx := fun b hb => by
    obtain ⟨x, hx, rfl⟩ := lkH_isSome_mem hb
    exact hdom x hx
  have hlt : ∀ i b, i ≤ m → (lkH (hpAt st.hp nb i) b).isSome → b < st.nx + 32 * i := fun i b hi hb => by
    rcases lkH_hpAt hb with h | ⟨j, hj, h⟩
    · have := hhp0 b h; omega
    · have := hrange j b (by omega) h; omega
  have hsub1 : ∀ i, i < m → Sub (lkH (hpAt st.hp nb i)) (lkH (hpAt st.hp nb (i + 1))) := fun i hi b blk hb => by
    have h1 := hlt i b (by omega) (by rw [hb]; rfl)
    simp only [hpAt, lkH_append]
    cases hn : lkH (nb i) b with
    | some blk' =>
      have := hrange i b hi (by rw [hn]; rfl)
      omega
    | none => simpa using hb
  have hsub : ∀ d i, i + d = m → Sub (lkH (hpAt st.hp nb i)) (lkH (hpAt st.hp nb m)) := by
    intro d
    induction d with
    | zero => intro i hi; rw [show i = m by omega]; exact fun b blk h => h
    | succ d ih => intro i hi b blk hb; exact ih (i + 1) (by omega) b blk (hsub1 i (by omega) b blk hb)
  have hnbA : ∀ i, i < m → ∀ b blk, lkH (nb i) b = some blk → lkH (hpAt st.hp nb m) b = some blk := fun i hi b blk hb =>
    hsub (m - (i + 1)) (i + 1) (by omega) b blk (by simp only [hpAt, lkH_append, hb]; rfl)
  have hflat : ∀ i, i < m → ∀ b blk, lkH (nb i) b = some blk → blk.flat = true → flatRows blk.rows = true := fun i hi b blk hb => by
    obtain ⟨o, ho, _⟩ := hA' i hi
    rcases Ran_cases (htr.ran i o hi ho) with h | h
    · exact OpA_flat h hb
    · rw [h] at hb; cases hb
  have hran : ∀ i o, i < m → all[i]? = some o → Ran P all o (st.nx + 32 * i) (envAt all st.env dv i) (lkH (hpAt st.hp nb m)) (dv i) (nb i) := fun i o hi ho => by
    have := htr.ran i o hi ho
    unfold Ran at this ⊢
    have hmono := @OpA_mono P (evalD (envAt all st.env dv i)) (evalD (envAt all st.env dv i)) _ _ (st.nx + 32 * i) o.op (dv i) (nb i) (hsub (m - i) i (by omega)) (fun _ _ => rfl)
    split at this
    · exact hmono this
    · obtain ⟨r, h1, h2⟩ := this
      refine ⟨r, h1, ?_⟩
      split at h2
      · rename_i hr; rw [if_pos hr]; exact hmono h2
      · rename_i hr; rw [if_neg hr]; exact h2
  have hdisj : ∀ i, i < m → ∀ j, j < m → j ≠ i → ∀ b, (lkH (nb j) b).isSome → lkH (nb i) b = none := fun i hi j hj hji b hb => by
    cases hn : lkH (nb i) b with
    | none => rfl
    | some blk =>
      have h1 := hrange i b hi (by rw [hn]; rfl)
      have h2 := hrange j b hj hb
      omega
  have hbig : ∀ i, i < m → ∀ b, st.nx + 32 * m ≤ b → lkH (nb i) b = none := fun i hi b hb => by
    cases hn : lkH (nb i) b with
    | none => rfl
    | some blk => have h1 := hrange i b hi (by rw [hn]; rfl); omega
  have uniq : ∀ j k s, j < m → k < m → k ≠ j → dstAt all j = some s → dstAt all k ≠ some s := by
    intro j k s hj hk hkj hjs hks
    obtain ⟨oj, hoj, hcj⟩ := hA' j hj
    exact hcj.dst k s hk hkj hks (by simpa [dstAt, hoj] using hjs)
  have hG0 : G w0 S all m st.nx st.n dv nb st.env (lkH (hpAt st.hp nb m)) (fun _ => false) a w := by
    obtain ⟨pu, ow, m1, m2, m3, m4, m5, m6, m7⟩ := hi
    refine ⟨pu, ow, m1.addPends (fun b blk hb => hsub m 0 (by omega) b blk hb) (fun b blk hb hb0 => ?_), (fun j s _ h => Bool.noConfusion h), fun s _ => m2 s, m3, m4, fun j b hj _ hb => m5 b ?_, fun b hb => m5 b (by omega), m6, m7⟩
    · rcases lkH_hpAt (by rw [hb]; rfl : (lkH (hpAt st.hp nb m) b).isSome) with h | ⟨j, hj, h⟩
      · rw [hb0] at h; cases h
      · have h1 := hrange j b hj h
        obtain ⟨blk', hb'⟩ := Option.isSome_iff_exists.1 h
        have := hnbA j hj b blk' hb'
        rw [hb] at this
        injection this with this; subst this
        exact ⟨m5 b (by omega), hflat j hj b blk hb'⟩
    · have h1 := hrange j b hj hb; omega
  have finish : ∀ (fuel : Nat) (listed : Array Bool) (a : Act) (w : World), listed.size = all.length → cnt all.length (fun i => listed.getD i false) ≤ fuel → (∀ i, i < m → listed.getD i false = true) →
      (∀ i, m ≤ i → i < all.length → listed.getD i false = false) → G w0 S all m st.nx st.n dv nb st.env (lkH (hpAt st.hp nb m)) (fun i => listed.getD i false) a w → wpAny P .any all.toArray (Post w0 S K) fuel listed a w := by
    intro fuel listed a w hs hcnt hall hB ⟨pu, ow, g1, g2, g3, g4, g5, g6, g7, g8, g9⟩
    refine line_ok hback hline (all.drop m) m fuel listed a w rfl (Nat.le_refl _) hm hs hall hB ?_ (evOps_ok (all.drop m) _ ⟨envAt all st.env dv m, hpAt st.hp nb m, st.nx + 32 * m, st.n⟩ a w (hNA.imp (fun h => h) fun h o ho => h o (List.mem_of_mem_drop ho)) ⟨pu, ow, g1, fun s => ?_, g4, g5, fun b hb => g7 b hb, g8, g9⟩ hK)
    · have : ∀ d, m + d ≤ all.length → d ≤ cnt (m + d) (fun i => listed.getD i false) := by
        intro d
        induction d with
        | zero => intro _; omega
        | succ d ih =>
          intro hd
          have := ih (by omega)
          have hstep : cnt (m + (d + 1)) (fun i => listed.getD i false) = cnt (m + d) (fun i => listed.getD i false) + 1 := by
            show cnt (m + d) _ + (if listed.getD (m + d) false = true then 0 else 1) = _
            rw [hB (m + d) (by omega) (by omega)]
            rfl
          omega
      have h1 := this (all.length - m) (by omega)
      rw [show m + (all.length - m) = all.length by omega] at h1
      simp
      omega
    · by_cases hex : ∃ j, j < m ∧ dstAt all j = some s
      · obtain ⟨j, hj, hjs⟩ := hex
        simp only
        rw [envAt_dst hjs hj fun k hk hkj => uniq j k s hj hk hkj hjs]
        exact g2 j s hj (hall j hj) hjs
      · have hno : ∀ j, j < m → dstAt all j ≠ some s := fun j hj h => hex ⟨j, hj, h⟩
        simp only
        rw [envAt_other hno]
        exact g3 s hno
  suffices H : ∀ (fuel : Nat) (listed : Array Bool) (a : Act) (w : World), listed.size = all.length → cnt all.length (fun i => listed.getD i false) ≤ fuel → Closed all (fun i => listed.getD i false) →
      (∀ i, m ≤ i → i < all.length → listed.getD i false = false) → G w0 S all m st.nx st.n dv nb st.env (lkH (hpAt st.hp nb m)) (fun i => listed.getD i false) a w → wpAny P .any all.toArray (Post w0 S K) fuel listed a w by
    refine H _ _ a w (by simp) ?_ ?_ ?_ ?_
    · have : ∀ n (L : Nat → Bool), cnt n L ≤ n := by
        intro n L
        induction n with
        | zero => simp [cnt]
        | succ n ih => simp only [cnt]; split <;> omega
      exact this _ _
    · intro i o e h
      simp only [Array.getD_eq_getD_getElem?, Array.getElem?_replicate] at h
      split at h <;> cases h
    · intro i _ _
      simp only [Array.getD_eq_getD_getElem?, Array.getElem?_replicate]
      split <;> rfl
    · have : (fun i => (Array.replicate all.length false).getD i false) = fun _ => false := by
        funext i
        simp only [Array.getD_eq_getD_getElem?, Array.getElem?_replicate]
        split <;> rfl
      rw [this]
      exact hG0
  intro fuel
  induction fuel with
  | zero =>
    intro listed a w hs hcnt hcl hB hG
    exact finish 0 listed a w hs hcnt (fun i hi => cnt_zero (n := all.length) (L := fun i => listed.getD i false) (by omega) i (by omega)) hB hG
  | succ fuel ih =>
    intro listed a w hs hcnt hcl hB hG
    by_cases hall : ∀ i, i < m → listed.getD i false = true
    · exact finish _ listed a w hs hcnt hall hB hG
    · refine ⟨fun hr => (hall fun i hi => ready_nil hs hback hr i (by omega)).elim, fun i hi => ?_⟩
      obtain ⟨h1, h2, o, ho, h3⟩ := mem_ready.1 hi
      rw [getD_tf (by omega)] at h2
      have him : i < m := by
        rcases Nat.lt_or_ge i m with h | h
        · exact h
        · exact (hall fun j hj => tb_ready hcl ho h3 (chkLine_spec hline h h1 (by omega))).elim
      refine G_step (env0 := st.env) (hp := lkH (hpAt st.hp nb m)) (L := fun i => listed.getD i false) hG ho hA' him h2 (fun j hb => ?_) (fun s hno _ => (envAt_other fun j hj => hno j (by omega)).symm) (hran i o him ho) (hnbA i him) (hdisj i him) (hbig i him) (htr.dst i him) fun a' w' hG' => ?_
      · obtain ⟨e, he, hbe, rfl⟩ := binding_spec hb
        exact ⟨h3 e he hbe, by have := chkBack_spec hback ho he hbe; omega⟩
      · have hset : (fun j => (listed.setIfInBounds i true).getD j false) = fun j => if j = i then true else listed.getD j false := funext fun j => set_getD (by omega)
        refine ih _ a' w' (by simpa using hs) ?_ ?_ ?_ ?_
        · have := cnt_set (n := all.length) (L := fun j => listed.getD j false) (L' := fun j => (listed.setIfInBounds i true).getD j false) h1 h2 (by simp only [set_getD (listed := listed) (i := i) (by omega : i < listed.size), if_pos]) (fun j hj => by simp only [set_getD (listed := listed) (i := i) (by omega : i < listed.size), if_neg hj])
          omega
        · intro j oj e hj hoj he hbe
          rw [hset] at hj ⊢
          simp only at hj ⊢
          split
          · rfl
          · split at hj
            · rename_i hji
              subst hji
              rw [ho] at hoj
              injection hoj with hoj; subst hoj
              exact h3 e he hbe
            · exact hcl j oj e hj hoj he hbe
        · intro j hj hj'
          rw [set_getD (by omega), if_neg (by omega)]
          exact hB j hj hj'
        · rw [hset]
          exact hG'

end
end Go.Pv

/- Regions whose order is open, with operations that may run behind the stores: run anew they come to the same. -/
namespace Go.Pv


/-- Run here, the operation j leaves the state as it is. -/
def kAgain (st : St) : X → St → Prop := fun x st' => x = .normal ∧ st'.hp = st.hp ∧ st'.n = st.n ∧ ∀ s, lkE st'.env s = lkE st.env s

def again (P : Program) (all : List Oper) (st : St) (j : Nat) : Prop :=
  match all[j]? with
  | some o => ∀ id, evOp P o.op id o.dst st (kAgain st)
  | none => False

def againAll (P : Program) (all : List Oper) (st : St) : List Nat → Prop
  | [] => True
  | j :: l => again P all st j ∧ againAll P all st l

/-- The operations in line, each with those that may run behind it. -/
def evLine (P : Program) (all : List Oper) (m : Nat) : List Oper → List (List Nat) → Nat → St → (X → St → Prop) → Prop
  | [], [], id, st, K => K .normal { st with nx := id }
  | o :: rest, z :: zs, id, st, K => evOp P o.op id o.dst st (onlyN fun st' => againAll P all st' z ∧ evLine P all m rest zs (id + 32 + 32 * m) st' K)
  | _, _, _, _, _ => False

def evDrawL (P : Program) (all : List Oper) (m : Nat) (zs : List (List Nat)) (st : St) (K : X → St → Prop) : Prop :=
  (st.hp.all fun x => decide (x.1 < st.nx)) = true ∧
  evOps P all (all.take m) st.nx st (onlyN fun st' => evLine P all m (all.drop m) zs st'.nx st' K)

/-- The operation j may run behind o. -/
def chkLazy (all : List Oper) (m : Nat) (o : Oper) (j : Nat) : Bool :=
  decide (j < m) && match all[j]? with
  | some oj => oj.guard.isNone && (match oj.dst with
    | some s => !(slotsOf o.op).contains s && o.dst != some s
    | none => true) && (match o.dst with
    | some t => !(slotsOf oj.op).contains t
    | none => true)
  | none => false

def bitsOf (l : List Nat) : Nat := l.foldl (fun s j => s ||| 2 ^ j) 0

def chkLineL (all : List Oper) (m : Nat) (ms : List Nat) : Nat → List Oper → List (List Nat) → Bool
  | _, [], [] => true
  | k, o :: rest, z :: zs => (ms.getD k 0 ||| bitsOf z == 2 ^ k - 1) && o.guard.isNone && z.all (chkLazy all m o) && chkLineL all m ms (k + 1) rest zs
  | _, _, _ => false

def chkDrawL (all : List Oper) (m : Nat) (zs : List (List Nat)) : Bool := decide (m ≤ all.length) && chkBack all 0 && chkLineL all m (masks all []) m (all.drop m) zs && (List.range m).all (chkA all m)

theorem bits_mem : ∀ {l : List Nat} {s j : Nat}, (l.foldl (fun s j => s ||| 2 ^ j) s).testBit j = true → s.testBit j = true ∨ j ∈ l
  | [], s, j, h => .inl h
  | i :: l, s, j, h => by
    rw [List.foldl_cons] at h
    rcases bits_mem h with h | h
    · simp only [Nat.testBit_or, Bool.or_eq_true, Nat.testBit_two_pow] at h
      rcases h with h | h
      · exact .inl h
      · exact .inr (by simp only [decide_eq_true_eq] at h; subst h; exact List.mem_cons_self)
    · exact .inr (List.mem_cons_of_mem _ h)

section
variable {P : Program} {w w0 : World} {S : Frm} {all : List Oper} {m id0 n : Nat} {a : Act} {Q : Exit → Act → World → Prop}

theorem lazy_bound {ms : List Nat} {k j : Nat} {z : List Nat} (hms : ∀ i j, (ms.getD i 0).testBit j = true → TB all j i) (h : (ms.getD k 0 ||| bitsOf z == 2 ^ k - 1) = true) (hj : j < k) : TB all j k ∨ j ∈ z := by
  have h1 : (ms.getD k 0 ||| bitsOf z).testBit j = true := by
    rw [beq_iff_eq.1 h]
    simp [Nat.testBit_two_pow_sub_one, hj]
  simp only [Nat.testBit_or, Bool.or_eq_true] at h1
  rcases h1 with h1 | h1
  · exact .inl (hms k j h1)
  · rcases bits_mem h1 with h2 | h2
    · simp at h2
    · exact .inr h2

theorem masks_tb (all : List Oper) : ∀ i j, ((masks all []).getD i 0).testBit j = true → TB all j i := fun i j h => masks_spec all [] (by simp) (fun i j h => by simp at h) i j h

theorem lkE_purgeE {b : Nat} : ∀ {env : Env} {s : Nat}, lkE (purgeE b env) s = pd b (lkE env s)
  | [], s => rfl
  | (t, d) :: env, s => by
    show (if s = t then pd b d else lkE (purgeE b env) s) = _
    simp only [lkE]
    split
    · rfl
    · exact lkE_purgeE

theorem nilB_congr' {o : Op} {hp : Nat → Option Blk} {ρ ρ' : Operand → D} (h : ∀ x ∈ o.operands, ρ x = ρ' x) {bs : List Bool} (hb : nilB P ρ hp o = some bs) : nilB P ρ' hp o = some bs := by
  unfold nilB at hb
  split at hb
  · rename_i op t x t'
    have hx := h x (by simp [Op.operands])
    show nilT P hp op t (ρ' x) = some bs
    rw [← hx]
    exact hb
  · cases hb

theorem nilB_congr {ρ ρ' : Operand → D} {hp : Nat → Option Blk} {o : Op} (h : ∀ x ∈ o.operands, ρ x = ρ' x) : nilB P ρ hp o = nilB P ρ' hp o := by
  cases h1 : nilB P ρ hp o with
  | some bs => exact (nilB_congr' h h1).symm
  | none =>
    cases h2 : nilB P ρ' hp o with
    | some bs => rw [nilB_congr' (fun x hx => (h x hx).symm) h2] at h1; cases h1
    | none => rfl

/-- An operation sees the slots that it names. -/
theorem evOp_frame {A : Nat → Prop} {E E2 : Env} {hp : Hp} {nx : Nat} {K : X → St → Prop} {o : Op} {id : Nat} {dst : Option Tmp} (hA : ∀ s, A s → lkE E2 s = lkE E s) (ho : ∀ s ∈ slotsOf o, A s) (h : evOp P o id dst ⟨E, hp, nx, n⟩ K) :
    evOp P o id dst ⟨E2, hp, nx, n⟩ fun x st2 => ∃ E', K x ⟨E', st2.hp, st2.nx, st2.n⟩ ∧ (x = .normal → ∀ s, (A s ∨ dst = some s) → lkE st2.env s = lkE E' s) := by
  have hρ : ∀ x ∈ o.operands, evalD E x = evalD E2 x := by
    intro x hx
    cases x with
    | tmp t => exact (hA t (ho t (List.mem_filterMap.2 ⟨.tmp t, by simpa using hx, rfl⟩))).symm
    | _ => rfl
  have step : ∀ {d : D} {F F2 : Env} {hp' : Hp}, (∀ s, A s → lkE F2 s = lkE F s) → stepK ⟨E, hp, nx, n⟩ dst d F hp' K →
      stepK ⟨E2, hp, nx, n⟩ dst d F2 hp' fun x st2 => ∃ E', K x ⟨E', st2.hp, st2.nx, st2.n⟩ ∧ (x = .normal → ∀ s, (A s ∨ dst = some s) → lkE st2.env s = lkE E' s) := by
    intro d F F2 hp' hF ⟨h1, h2⟩
    refine ⟨h1, putE dst d F, h2, fun _ s hs => ?_⟩
    simp only [lkE_putE]
    split
    · rfl
    · rename_i hne
      rcases hs with hs | hs
      · exact hF s hs
      · exact (hne hs).elim
  unfold evOp at h ⊢
  split at h
  · rename_i op t x y
    have hx := hρ x (by simp [Op.operands])
    have hy := hρ y (by simp [Op.operands])
    dsimp only at h ⊢
    rw [← hx, ← hy]
    split at h
    · exact step hA h
    · exact h.elim
  · rename_i f args ts
    have hf := hρ f (by simp [Op.operands, Call.operands])
    have hargs : args.toList.map (evalD E) = args.toList.map (evalD E2) := map_ops fun x hx => hρ x (by simp [Op.operands, Call.operands, hx])
    dsimp only at h ⊢
    rw [← hf, ← hargs]
    unfold evCall at h ⊢
    split at h
    · obtain ⟨args', out, h1, h2, h3, h4⟩ := h
      refine ⟨args', out, h1, h2, h3, ?_⟩
      cases out with
      | ret r => exact ⟨h4.1, step hA h4.2⟩
      | pan d => exact ⟨E, h4, fun hx => by cases hx⟩
    · exact h.elim
  · rename_i args ts
    dsimp only at h ⊢
    split at h
    · rename_i s x t t' hargs hts
      have hs := hρ s (by simp [Op.operands, Call.operands]; rw [← Array.mem_toList_iff, hargs]; simp)
      have hx := hρ x (by simp [Op.operands, Call.operands]; rw [← Array.mem_toList_iff, hargs]; simp)
      rw [← hs, ← hx]
      split at h
      · rename_i htt
        rw [if_pos htt]
        split at h
        · exact step hA h
        · exact step (fun s hs => by rw [lkE_purgeE, lkE_purgeE, hA s hs]) h
        · exact h.elim
      · exact h.elim
    · exact h.elim
  · rename_i t parts
    dsimp only at h ⊢
    rw [← map_parts (ρ := evalD E) (ρ' := evalD E2) fun x hx => hρ x (by simpa [Op.operands] using hx)]
    split at h
    · rename_i h1; simp only [h1]; exact step hA h
    · exact h.elim
  · dsimp only at h ⊢
    rw [← op0_congr (P := P) (hp := lkH hp) hρ, ← op1_congr (P := P) hρ]
    rw [← nilB_congr (P := P) (hp := lkH hp) hρ]
    split at h
    · exact step hA h
    · split at h
      · exact step hA h
      · split at h
        · exact fun b hb => step hA (h b hb)
        · exact h.elim

theorem againAll_mem {st : St} : ∀ {z : List Nat}, againAll P all st z → ∀ j ∈ z, again P all st j
  | [], _, j, hj => by simp at hj
  | i :: z, h, j, hj => by
    rcases List.mem_cons.1 hj with rfl | hj
    · exact h.1
    · exact againAll_mem h.2 j hj

theorem InvI.up {id id' : Nat} {st : St} {a : Act} (hi : InvI w0 S id st a w) (h : id ≤ id') : InvI w0 S id' st a w := by
  obtain ⟨pu, ow, m1, m2, m3, m4, m5, m6, m7⟩ := hi
  exact ⟨pu, ow, m1, m2, m3, m4, fun b hb => m5 b (by omega), m6, m7⟩

theorem InvI.look {id : Nat} {st st' : St} {a : Act} (hi : InvI w0 S id st a w) (h1 : ∀ s, lkE st'.env s = lkE st.env s) (h2 : st'.hp = st.hp) (h3 : st'.n = st.n) : InvI w0 S id st' a w := by
  obtain ⟨pu, ow, m1, m2, m3, m4, m5, m6, m7⟩ := hi
  exact ⟨pu, ow, by rw [h2]; exact m1, fun s => by rw [h1]; exact m2 s, m3, m4, m5, by rw [h3]; exact m6, m7⟩

theorem cnt_le : ∀ (n : Nat) (L : Nat → Bool), cnt n L ≤ n
  | 0, _ => Nat.le_refl _
  | n + 1, L => by have := cnt_le n L; simp only [cnt]; split <;> omega

theorem chkLazy_spec {o : Oper} {j : Nat} (h : chkLazy all m o j = true) : j < m ∧ ∃ oj, all[j]? = some oj ∧ oj.guard = none ∧ (∀ s, oj.dst = some s → s ∉ slotsOf o.op ∧ o.dst ≠ some s) ∧ ∀ t, o.dst = some t → t ∉ slotsOf oj.op := by
  unfold chkLazy at h
  simp only [Bool.and_eq_true, decide_eq_true_eq] at h
  obtain ⟨h1, h2⟩ := h
  split at h2
  · rename_i oj ho
    simp only [Bool.and_eq_true] at h2
    obtain ⟨⟨h3, h4⟩, h5⟩ := h2
    refine ⟨h1, oj, ho, by simpa using h3, fun s hs => ?_, fun t ht => ?_⟩
    · rw [hs] at h4
      simpa using h4
    · rw [ht] at h5
      simpa using h5
  · cases h2

/-- Behind the first operation in line. -/
def LazyS (P : Program) (w0 : World) (S : Frm) (all : List Oper) (m : Nat) (K : X → St → Prop) (fuel : Nat) : Prop := ∀ (k : Nat) (rest : List Oper) (zs : List (List Nat)) (z : List Nat) (listed : Array Bool) (st : St) (id idc : Nat) (E2 : Env) (a : Act) (w : World),
    all.drop k = rest → m ≤ k → k ≤ all.length → listed.size = all.length → chkLineL all m (masks all []) k rest zs = true → (∀ i, m ≤ i → i < k → listed.getD i false = true) → (∀ i, k ≤ i → i < all.length → listed.getD i false = false) →
    (∀ i, i < m → listed.getD i false = false → i ∈ z) → (∀ j ∈ z, ∃ o, all[j]? = some o ∧ o.guard = none) → Closed all (fun i => listed.getD i false) → cnt all.length (fun i => listed.getD i false) ≤ fuel →
    againAll P all st z → evLine P all m rest zs id st K → InvI w0 S idc ⟨E2, st.hp, st.nx, st.n⟩ a w → idc + 32 * cnt m (fun i => listed.getD i false) ≤ id →
    (∀ s, (∀ j, j < m → listed.getD j false = false → dstAt all j ≠ some s) → lkE E2 s = lkE st.env s) → wpAny P .any all.toArray (Post w0 S K) fuel listed a w

theorem lazy_next (hNA : S.free ∨ ∀ o ∈ all, noApp o.op = true) (hback : chkBack all 0 = true) (hm : m ≤ all.length) {K : X → St → Prop} {fuel : Nat} (ih : LazyS P w0 S all m K fuel) (k : Nat) (rest : List Oper) (zs : List (List Nat)) (listed : Array Bool) (st : St) (id idc : Nat) (E2 : Env) (a : Act) (w : World)
    (hd : all.drop k = rest) (hmk : m ≤ k) (hs : listed.size = all.length) (hchk : chkLineL all m (masks all []) k rest zs = true) (h1 : ∀ i, m ≤ i → i < k → listed.getD i false = true) (h2 : ∀ i, k ≤ i → i < all.length → listed.getD i false = false)
    (hcl : Closed all (fun i => listed.getD i false)) (h : evLine P all m rest zs id st K) (hi : InvI w0 S idc ⟨E2, st.hp, st.nx, st.n⟩ a w) (hidc : idc ≤ id)
    (hE : ∀ s, (∀ j, j < m → listed.getD j false = false → dstAt all j ≠ some s) → lkE E2 s = lkE st.env s) (i : Nat) (him : ¬ i < m) (h3 : i < all.length) (h4 : listed.getD i false = false) (o : Oper) (ho : all[i]? = some o)
    (h5 : ∀ e ∈ o.after, Region.binds .any e = true → listed.getD e.on false = true) (hclosed : Closed all (fun j => (listed.setIfInBounds i true).getD j false)) (hcnt' : cnt all.length (fun j => (listed.setIfInBounds i true).getD j false) ≤ fuel) :
    wpOp P all.toArray (Post w0 S K) i (fun a w => wpAny P .any all.toArray (Post w0 S K) fuel (listed.setIfInBounds i true) a w) a w := by
  cases rest with
  | nil =>
    have := congrArg List.length hd
    simp at this
    have := h1 i (by omega) (by omega)
    rw [h4] at this
    cases this
  | cons ok rest =>
    cases zs with
    | nil => exact h.elim
    | cons zk zs =>
      have hklt : k < all.length := by
        have := congrArg List.length hd
        simp at this
        omega
      rw [List.drop_eq_getElem_cons hklt] at hd
      injection hd with hd1 hd2
      have hok : all[k]? = some ok := by rw [List.getElem?_eq_getElem hklt, hd1]
      simp only [chkLineL, Bool.and_eq_true, List.all_eq_true] at hchk
      obtain ⟨⟨⟨c1, c2⟩, c3⟩, c4⟩ := hchk
      have hik : i = k := by
        rcases Nat.lt_trichotomy i k with hlt | hlt | hlt
        · have := h1 i (by omega) hlt; rw [h4] at this; cases this
        · exact hlt
        · exfalso
          have bound : ∀ (rest : List Oper) (zs : List (List Nat)) (k0 : Nat), all.drop k0 = rest → chkLineL all m (masks all []) k0 rest zs = true → k0 ≤ i → ∀ j, m ≤ j → j < i → TB all j i := by
            intro rest
            induction rest with
            | nil => intro zs k0 hd _ hk0 j _ _; have := congrArg List.length hd; simp at this; omega
            | cons o1 rest ihr =>
              intro zs k0 hd hc hk0 j hj hji
              cases zs with
              | nil => simp [chkLineL] at hc
              | cons z1 zs =>
                simp only [chkLineL, Bool.and_eq_true, List.all_eq_true] at hc
                obtain ⟨⟨⟨e1, _⟩, e3⟩, e4⟩ := hc
                have hlt0 : k0 < all.length := by
                  have := congrArg List.length hd
                  simp at this
                  omega
                rw [List.drop_eq_getElem_cons hlt0] at hd
                injection hd with _ hd2
                by_cases hki : k0 = i
                · subst hki
                  rcases lazy_bound (masks_tb all) e1 hji with h | h
                  · exact h
                  · have := (chkLazy_spec (e3 j h)).1; omega
                · exact ihr zs (k0 + 1) hd2 e4 (by omega) j hj hji
          have htb := bound rest zs (k + 1) hd2 c4 (by omega) k hmk hlt
          have := tb_ready hcl ho h5 htb
          rw [h2 k (Nat.le_refl _) hklt] at this
          cases this
      subst hik
      rw [hok] at ho
      injection ho with ho; subst ho
      have hpend : ∀ j, j < m → listed.getD j false = false → j ∈ zk := fun j hj hlj => by
        rcases lazy_bound (masks_tb all) c1 (by omega : j < i) with h | h
        · have := tb_ready hcl hok h5 h; rw [hlj] at this; cases this
        · exact h
      let A : Nat → Prop := fun s => ∀ j, j < m → listed.getD j false = false → dstAt all j ≠ some s
      have hops : ∀ s ∈ slotsOf ok.op, A s := fun s hsl j hj hlj hjs => by
        obtain ⟨_, oj, hoj, _, h7, _⟩ := chkLazy_spec (c3 j (hpend j hj hlj))
        exact (h7 s (by simpa [dstAt, hoj] using hjs)).1 hsl
      simp only [evLine] at h
      have hrun := evOp_frame (A := A) (E := st.env) (E2 := E2) (hp := st.hp) (nx := st.nx) (n := st.n) (fun s hs => hE s hs) hops h
      unfold wpOp
      simp only [List.getElem?_toArray, hok]
      have hg : ok.guard = none := by simpa using c2
      rw [if_pos (by simp [Region.wanted, hg])]
      refine .inl (evOp_ok (hNA.imp (fun h => h) fun h => h ok (List.mem_of_getElem? hok)) (hi.up (by omega : idc ≤ id)) hrun (fun st2 a' w' hK hi' => ?_) fun d chain w' hK _ => ?_)
      · obtain ⟨E', ⟨k1, k2⟩, k5⟩ := hK
        have hst2 : ∀ s, (∀ j, j < m → (listed.setIfInBounds i true).getD j false = false → dstAt all j ≠ some s) → lkE st2.env s = lkE E' s := fun s hs => by
          refine k5 rfl s (.inl fun j hj hlj hjs => hs j hj ?_ hjs)
          rw [set_getD (by omega), if_neg (by omega)]; exact hlj
        have hcm := cnt_le m (fun j => (listed.setIfInBounds i true).getD j false)
        refine ih (i + 1) rest zs zk _ ⟨E', st2.hp, st2.nx, st2.n⟩ (id + 32 + 32 * m) (id + 32) st2.env a' w' hd2 (by omega) (by omega) (by simpa using hs) c4 (fun j hj hjk => ?_) (fun j hj hjl => ?_) (fun j hj hlj => ?_) (fun j hj => ?_) hclosed hcnt' k1 k2 hi' (by omega) hst2
        · rw [set_getD (by omega)]; split; rfl; exact h1 j hj (by omega)
        · rw [set_getD (by omega), if_neg (by omega)]; exact h2 j (by omega) hjl
        · rw [set_getD (by omega), if_neg (by omega)] at hlj
          exact hpend j hj hlj
        · obtain ⟨_, oj, hoj, hg, _⟩ := chkLazy_spec (c3 j hj)
          exact ⟨oj, hoj, hg⟩
      · obtain ⟨E', hx, _⟩ := hK
        exact hx.elim

theorem lazy_ok (hNA : S.free ∨ ∀ o ∈ all, noApp o.op = true) (hback : chkBack all 0 = true) (hA' : ∀ i, i < m → ∃ o, all[i]? = some o ∧ ChkA all m i o) (hm : m ≤ all.length) {K : X → St → Prop} : ∀ (fuel : Nat), LazyS P w0 S all m K fuel := by
  intro fuel
  have atEnd : ∀ (k : Nat) (rest : List Oper) (zs : List (List Nat)) (listed : Array Bool) (st : St) (id idc : Nat) (E2 : Env) (a : Act) (w : World), all.drop k = rest → m ≤ k → k ≤ all.length → (∀ i, k ≤ i → i < all.length → listed.getD i false = false) →
      (∀ i, i < all.length → listed.getD i false = true) → evLine P all m rest zs id st K → InvI w0 S idc ⟨E2, st.hp, st.nx, st.n⟩ a w → idc + 32 * cnt m (fun i => listed.getD i false) ≤ id →
      (∀ s, (∀ j, j < m → listed.getD j false = false → dstAt all j ≠ some s) → lkE E2 s = lkE st.env s) → Post w0 S K .normal a w := by
    intro k rest zs listed st id idc E2 a w hd hmk hk h2 hall h hi hidc hE
    have hkl : k = all.length := by
      rcases Nat.lt_or_ge k all.length with hlt | hge
      · have := h2 k (Nat.le_refl _) hlt; rw [hall k hlt] at this; cases this
      · omega
    have hr : rest = [] := by rw [← hd, hkl]; simp
    subst hr
    cases zs with
    | nil =>
      refine ⟨{ st with nx := id }, h, InvI.look (InvI.up hi (show idc ≤ id by omega)) (fun s => ?_) rfl rfl⟩
      exact (hE s fun j hj hlj => by rw [hall j (by omega)] at hlj; cases hlj).symm
    | cons _ _ => exact h.elim
  induction fuel with
  | zero =>
    intro k rest zs z listed st id idc E2 a w hd hmk hk hs hchk h1 h2 hU hz hcl hcnt hag h hi hidc hE
    have hall : ∀ i, i < all.length → listed.getD i false = true := fun i hi => cnt_zero (n := all.length) (L := fun i => listed.getD i false) (by omega) i hi
    refine ⟨List.eq_nil_iff_forall_not_mem.2 fun i hi => ?_, atEnd k rest zs listed st id idc E2 a w hd hmk hk h2 hall h hi hidc hE⟩
    obtain ⟨h3, h4, _⟩ := mem_ready.1 hi
    rw [getD_tf (by omega), hall i h3] at h4
    cases h4
  | succ fuel ih =>
    intro k rest zs z listed st id idc E2 a w hd hmk hk hs hchk h1 h2 hU hz hcl hcnt hag h hi hidc hE
    refine ⟨fun hr => atEnd k rest zs listed st id idc E2 a w hd hmk hk h2 (ready_nil hs hback hr) h hi hidc hE, fun i hir => ?_⟩
    obtain ⟨h3, h4, o, ho, h5⟩ := mem_ready.1 hir
    rw [getD_tf (by omega)] at h4
    have hclosed : Closed all (fun j => (listed.setIfInBounds i true).getD j false) := by
      intro j oj e hj hoj he hbe
      simp only [set_getD (listed := listed) (i := i) (by omega : i < listed.size)] at hj ⊢
      split
      · rfl
      · split at hj
        · rename_i hji
          subst hji
          rw [ho] at hoj
          injection hoj with hoj; subst hoj
          exact h5 e he hbe
        · exact hcl j oj e hj hoj he hbe
    have hcnt' : cnt all.length (fun j => (listed.setIfInBounds i true).getD j false) ≤ fuel := by
      have := cnt_set (n := all.length) (L := fun j => listed.getD j false) (L' := fun j => (listed.setIfInBounds i true).getD j false) h3 h4 (by simp only [set_getD (listed := listed) (i := i) (by omega : i < listed.size), if_pos]) (fun j hj => by simp only [set_getD (listed := listed) (i := i) (by omega : i < listed.size), if_neg hj])
      omega
    have uniq : ∀ j k s, j < m → k < m → k ≠ j → dstAt all j = some s → dstAt all k ≠ some s := by
      intro j k s hj hk hkj hjs hks
      obtain ⟨oj, hoj, hcj⟩ := hA' j hj
      exact hcj.dst k s hk hkj hks (by simpa [dstAt, hoj] using hjs)
    by_cases him : i < m
    · -- one that was left behind
      have hiz := hU i him h4
      have hagi := againAll_mem hag i hiz
      obtain ⟨o', ho', hg⟩ := hz i hiz
      rw [ho] at ho'; injection ho' with ho'; subst ho'
      unfold again at hagi
      rw [ho] at hagi
      simp only at hagi
      obtain ⟨o', ho', hca⟩ := hA' i him
      rw [ho] at ho'; injection ho' with ho'; subst ho'
      have hod : dstAt all i = o.dst := by simp [dstAt, ho]
      let A : Nat → Prop := fun s => ∀ j, j < m → listed.getD j false = false → dstAt all j ≠ some s
      have hops : ∀ s ∈ slotsOf o.op, A s := fun s hsl j hj hlj hjs => by
        obtain ⟨e, he, hbe, hej⟩ := binding_spec (hca.slot j s hj hjs hsl)
        have := h5 e he hbe
        rw [hej, hlj] at this
        cases this
      have hrun := evOp_frame (A := A) (E := st.env) (E2 := E2) (hp := st.hp) (nx := st.nx) (n := st.n) (fun s hs => hE s hs) hops (hagi idc)
      unfold wpOp
      simp only [List.getElem?_toArray, ho]
      rw [if_pos (by simp [Region.wanted, hg])]
      refine .inl (evOp_ok (hNA.imp (fun h => h) fun h => h o (List.mem_of_getElem? ho)) hi hrun (fun st2 a' w' hK hi' => ?_) fun d chain w' hK _ => ?_)
      · obtain ⟨E', ⟨_, k2, k3, k4⟩, k5⟩ := hK
        have hst2 : ∀ s, (∀ j, j < m → (listed.setIfInBounds i true).getD j false = false → dstAt all j ≠ some s) → lkE st2.env s = lkE st.env s := fun s hs => by
          have hA : A s ∨ o.dst = some s := by
            by_cases hds : o.dst = some s
            · exact .inr hds
            · left
              intro j hj hlj hjs
              by_cases hji : j = i
              · subst hji; exact hds (hod ▸ hjs)
              · exact hs j hj (by rw [set_getD (by omega), if_neg hji]; exact hlj) hjs
          rw [k5 rfl s hA]
          exact k4 s
        have hc2 : cnt m (fun j => (listed.setIfInBounds i true).getD j false) + 1 = cnt m (fun j => listed.getD j false) := cnt_set (n := m) him h4 (by simp only [set_getD (listed := listed) (i := i) (by omega : i < listed.size), if_pos]) (fun j hj => by simp only [set_getD (listed := listed) (i := i) (by omega : i < listed.size), if_neg hj])
        refine ih k rest zs z _ st id (idc + 32) st2.env a' w' hd hmk hk (by simpa using hs) hchk (fun j hj hjk => ?_) (fun j hj hjl => ?_) (fun j hj hlj => ?_) hz hclosed hcnt' hag h (InvI.look hi' (fun s => rfl) k2.symm k3.symm) (by omega) hst2
        · rw [set_getD (by omega)]; split; rfl; exact h1 j hj hjk
        · rw [set_getD (by omega), if_neg (by omega)]; exact h2 j hj hjl
        · rw [set_getD (by omega)] at hlj
          split at hlj
          · cases hlj
          · exact hU j hj hlj
      · obtain ⟨E', ⟨hx, _⟩, _⟩ := hK
        cases hx
    · exact lazy_next hNA hback hm ih k rest zs listed st id idc E2 a w hd hmk hs hchk h1 h2 hcl h hi (by omega) hE i him h3 h4 o ho h5 hclosed hcnt'

theorem evDrawL_ok (hNA : S.free ∨ ∀ o ∈ all, noApp o.op = true) {st : St} {K : X → St → Prop} {zs : List (List Nat)} (hc : chkDrawL all m zs = true) (hi : InvI w0 S st.nx st a w) (h : evDrawL P all m zs st K) : wpAny P .any all.toArray (Post w0 S K) all.length (Array.replicate all.length false) a w := by
  unfold chkDrawL at hc
  simp only [Bool.and_eq_true, decide_eq_true_eq, List.all_eq_true, List.mem_range] at hc
  obtain ⟨⟨⟨hm, hback⟩, hline⟩, hA⟩ := hc
  have hA' : ∀ i, i < m → ∃ o, all[i]? = some o ∧ ChkA all m i o := fun i hi => chkA_spec (hA i hi)
  obtain ⟨hdom, h⟩ := h
  simp only [List.all_eq_true, decide_eq_true_eq] at hdom
  have hkind : ∀ i o, i < m → all[i]? = some o → kindA o.op = true := fun i o hi ho => by
    obtain ⟨o', ho', hc⟩ := hA' i hi
    rw [ho] at ho'; injection ho' with ho'; subst ho'
    exact hc.kind
  obtain ⟨dv, nb, htr, hK⟩ := evOps_trace (P := P) (all := all) (env0 := st.env) (hp0 := st.hp) (id0 := st.nx) (m := m) (K := fun _ st' => evLine P all m (all.drop m) zs st'.nx st' K) hm hkind m 0 (fun _ => .undef) (fun _ => []) st (by omega) rfl rfl rfl
    (fun j o hj => by omega) (fun j hj => by omega) (by simpa using h)
  simp only at hK
  have hrange : ∀ j b, j < m → (lkH (nb j) b).isSome → st.nx + 32 * j ≤ b ∧ b < st.nx + 32 * j + 32 := fun j b hj hb => by
    obtain ⟨o, ho, _⟩ := hA' j hj
    exact Ran_range (htr.ran j o hj ho) hb
  have hhp0 : ∀ b, (lkH st.hp b).isSome → b < st.nx := fun b hb => by
    obtain ⟨x, hx, rfl⟩ := lkH_isSome_mem hb
    exact hdom x hx
  have hlt : ∀ i b, i ≤ m → (lkH (hpAt st.hp nb i) b).isSome → b < st.nx + 32 * i := fun i b hi hb => by
    rcases lkH_hpAt hb with h | ⟨j, hj, h⟩
    · have := hhp0 b h; omega
    · have := hrange j b (by omega) h; omega
  have hsub1 : ∀ i, i < m → Sub (lkH (hpAt st.hp nb i)) (lkH (hpAt st.hp nb (i + 1))) := fun i hi b blk hb => by
    have h1 := hlt i b (by omega) (by rw [hb]; rfl)
    simp only [hpAt, lkH_append]
    cases hn : lkH (nb i) b with
    | some blk' =>
      have := hrange i b hi (by rw [hn]; rfl)
      omega
    | none => simpa using hb
  have hsub : ∀ d i, i + d = m → Sub (lkH (hpAt st.hp nb i)) (lkH (hpAt st.hp nb m)) := by
    intro d
    induction d with
    | zero => intro i hi; rw [show i = m by omega]; exact fun b blk h => h
    | succ d ih => intro i hi b blk hb; exact ih (i + 1) (by omega) b blk (hsub1 i (by omega) b blk hb)
  have hnbA : ∀ i, i < m → ∀ b blk, lkH (nb i) b = some blk → lkH (hpAt st.hp nb m) b = some blk := fun i hi b blk hb =>
    hsub (m - (i + 1)) (i + 1) (by omega) b blk (by simp only [hpAt, lkH_append, hb]; rfl)
  have hflat : ∀ i, i < m → ∀ b blk, lkH (nb i) b = some blk → blk.flat = true → flatRows blk.rows = true := fun i hi b blk hb => by
    obtain ⟨o, ho, _⟩ := hA' i hi
    rcases Ran_cases (htr.ran i o hi ho) with h | h
    · exact OpA_flat h hb
    · rw [h] at hb; cases hb
  have hran : ∀ i o, i < m → all[i]? = some o → Ran P all o (st.nx + 32 * i) (envAt all st.env dv i) (lkH (hpAt st.hp nb m)) (dv i) (nb i) := fun i o hi ho => by
    have := htr.ran i o hi ho
    unfold Ran at this ⊢
    have hmono := @OpA_mono P (evalD (envAt all st.env dv i)) (evalD (envAt all st.env dv i)) _ _ (st.nx + 32 * i) o.op (dv i) (nb i) (hsub (m - i) i (by omega)) (fun _ _ => rfl)
    split at this
    · exact hmono this
    · obtain ⟨r, h1, h2⟩ := this
      refine ⟨r, h1, ?_⟩
      split at h2
      · rename_i hr; rw [if_pos hr]; exact hmono h2
      · rename_i hr; rw [if_neg hr]; exact h2
  have hdisj : ∀ i, i < m → ∀ j, j < m → j ≠ i → ∀ b, (lkH (nb j) b).isSome → lkH (nb i) b = none := fun i hi j hj hji b hb => by
    cases hn : lkH (nb i) b with
    | none => rfl
    | some blk =>
      have h1 := hrange i b hi (by rw [hn]; rfl)
      have h2 := hrange j b hj hb
      omega
  have hbig : ∀ i, i < m → ∀ b, st.nx + 32 * m ≤ b → lkH (nb i) b = none := fun i hi b hb => by
    cases hn : lkH (nb i) b with
    | none => rfl
    | some blk => have h1 := hrange i b hi (by rw [hn]; rfl); omega
  have uniq : ∀ j k s, j < m → k < m → k ≠ j → dstAt all j = some s → dstAt all k ≠ some s := by
    intro j k s hj hk hkj hjs hks
    obtain ⟨oj, hoj, hcj⟩ := hA' j hj
    exact hcj.dst k s hk hkj hks (by simpa [dstAt, hoj] using hjs)
  have hG0 : G w0 S all m st.nx st.n dv nb st.env (lkH (hpAt st.hp nb m)) (fun _ => false) a w := by
    obtain ⟨pu, ow, m1, m2, m3, m4, m5, m6, m7⟩ := hi
    refine ⟨pu, ow, m1.addPends (fun b blk hb => hsub m 0 (by omega) b blk hb) (fun b blk hb hb0 => ?_), (fun j s _ h => Bool.noConfusion h), fun s _ => m2 s, m3, m4, fun j b hj _ hb => m5 b ?_, fun b hb => m5 b (by omega), m6, m7⟩
    · rcases lkH_hpAt (by rw [hb]; rfl : (lkH (hpAt st.hp nb m) b).isSome) with h | ⟨j, hj, h⟩
      · rw [hb0] at h; cases h
      · have h1 := hrange j b hj h
        obtain ⟨blk', hb'⟩ := Option.isSome_iff_exists.1 h
        have := hnbA j hj b blk' hb'
        rw [hb] at this
        injection this with this; subst this
        exact ⟨m5 b (by omega), hflat j hj b blk hb'⟩
    · have h1 := hrange j b hj hb; omega
  have stateOf : ∀ (listed : Array Bool) (a : Act) (w : World), G w0 S all m st.nx st.n dv nb st.env (lkH (hpAt st.hp nb m)) (fun i => listed.getD i false) a w →
      ∃ E2, InvI w0 S (st.nx + 32 * m) ⟨E2, hpAt st.hp nb m, st.nx + 32 * m, st.n⟩ a w ∧ ∀ s, (∀ j, j < m → listed.getD j false = false → dstAt all j ≠ some s) → lkE E2 s = lkE (envAt all st.env dv m) s := by
    intro listed a w ⟨pu, ow, g1, g2, g3, g4, g5, g6, g7, g8, g9⟩
    let un : List Nat := (List.range m).filterMap fun j => if listed.getD j false = false then dstAt all j else none
    have hun : ∀ s, s ∈ un ↔ ∃ j, j < m ∧ listed.getD j false = false ∧ dstAt all j = some s := by
      intro s
      simp only [un, List.mem_filterMap, List.mem_range]
      constructor
      · rintro ⟨j, hj, h⟩
        split at h
        · rename_i hl; exact ⟨j, hj, hl, h⟩
        · cases h
      · rintro ⟨j, hj, hl, h⟩
        exact ⟨j, hj, by rw [if_pos hl]; exact h⟩
    have hlk : ∀ (l : List Nat) (E : Env) (s : Nat), lkE (l.map (fun s => (s, D.undef)) ++ E) s = if s ∈ l then .undef else lkE E s := by
      intro l
      induction l with
      | nil => intro E s; simp
      | cons t l ih =>
        intro E s
        simp only [List.map_cons, List.cons_append, lkE, List.mem_cons]
        by_cases h : s = t
        · simp [h]
        · rw [if_neg h, ih]; simp [h]
    refine ⟨un.map (fun s => (s, D.undef)) ++ envAt all st.env dv m, ⟨pu, ow, g1, fun s => ?_, g4, g5, g7, g8, g9⟩, fun s hs => ?_⟩
    · simp only [hlk]
      split
      · exact .pure _ _ (.undef _)
      · rename_i hsu
        by_cases hex : ∃ j, j < m ∧ dstAt all j = some s
        · obtain ⟨j, hj, hjs⟩ := hex
          rw [envAt_dst hjs hj fun k hk hkj => uniq j k s hj hk hkj hjs]
          refine g2 j s hj ?_ hjs
          cases hl : listed.getD j false with
          | true => exact hl
          | false => exact (hsu ((hun s).2 ⟨j, hj, hl, hjs⟩)).elim
        · have hno : ∀ j, j < m → dstAt all j ≠ some s := fun j hj h => hex ⟨j, hj, h⟩
          rw [envAt_other hno]
          exact g3 s hno
    · rw [hlk, if_neg]
      intro hsu
      obtain ⟨j, hj, hl, hjs⟩ := (hun s).1 hsu
      exact hs j hj hl hjs
  have finish : ∀ (fuel : Nat) (listed : Array Bool) (a : Act) (w : World), listed.size = all.length → cnt all.length (fun i => listed.getD i false) ≤ fuel → Closed all (fun i => listed.getD i false) → (∀ i, i < m → listed.getD i false = true) →
      (∀ i, m ≤ i → i < all.length → listed.getD i false = false) → G w0 S all m st.nx st.n dv nb st.env (lkH (hpAt st.hp nb m)) (fun i => listed.getD i false) a w → wpAny P .any all.toArray (Post w0 S K) fuel listed a w := by
    intro fuel listed a w hs hcnt hcl hall hB hG
    obtain ⟨E2, hi2, hE⟩ := stateOf listed a w hG
    have hz : ∀ n, (∀ i, i < n → listed.getD i false = true) → cnt n (fun i => listed.getD i false) = 0 := by
      intro n
      induction n with
      | zero => intro _; rfl
      | succ n ih => intro h; simp only [cnt]; rw [ih fun i hi => h i (by omega), if_pos (h n (by omega))]
    exact lazy_ok hNA hback hA' hm fuel m (all.drop m) zs [] listed _ _ _ E2 a w rfl (Nat.le_refl _) hm hs hline (fun j hj hj' => by omega) hB (fun j hj hl => by rw [hall j hj] at hl; cases hl) (fun j hj => by simp at hj) hcl hcnt trivial hK hi2 (by rw [hz m hall]; exact Nat.le_refl _) hE
  suffices H : ∀ (fuel : Nat) (listed : Array Bool) (a : Act) (w : World), listed.size = all.length → cnt all.length (fun i => listed.getD i false) ≤ fuel → Closed all (fun i => listed.getD i false) →
      (∀ i, m ≤ i → i < all.length → listed.getD i false = false) → G w0 S all m st.nx st.n dv nb st.env (lkH (hpAt st.hp nb m)) (fun i => listed.getD i false) a w → wpAny P .any all.toArray (Post w0 S K) fuel listed a w by
    refine H _ _ a w (by simp) ?_ ?_ ?_ ?_
    · have : ∀ n (L : Nat → Bool), cnt n L ≤ n := by
        intro n L
        induction n with
        | zero => simp [cnt]
        | succ n ih => simp only [cnt]; split <;> omega
      exact this _ _
    · intro i o e h
      simp only [Array.getD_eq_getD_getElem?, Array.getElem?_replicate] at h
      split at h <;> cases h
    · intro i _ _
      simp only [Array.getD_eq_getD_getElem?, Array.getElem?_replicate]
      split <;> rfl
    · have : (fun i => (Array.replicate all.length false).getD i false) = fun _ => false := by
        funext i
        simp only [Array.getD_eq_getD_getElem?, Array.getElem?_replicate]
        split <;> rfl
      rw [this]
      exact hG0
  intro fuel
  induction fuel with
  | zero =>
    intro listed a w hs hcnt hcl hB hG
    exact finish 0 listed a w hs hcnt hcl (fun i hi => cnt_zero (n := all.length) (L := fun i => listed.getD i false) (by omega) i (by omega)) hB hG
  | succ fuel ih =>
    intro listed a w hs hcnt hcl hB hG
    by_cases hall : ∀ i, i < m → listed.getD i false = true
    · exact finish _ listed a w hs hcnt hcl hall hB hG
    · refine ⟨fun hr => (hall fun i hi => ready_nil hs hback hr i (by omega)).elim, fun i hi => ?_⟩
      obtain ⟨h1, h2, o, ho, h3⟩ := mem_ready.1 hi
      rw [getD_tf (by omega)] at h2
      have hclosed : Closed all (fun j => (listed.setIfInBounds i true).getD j false) := by
        intro j oj e hj hoj he hbe
        simp only [set_getD (listed := listed) (i := i) (by omega : i < listed.size)] at hj ⊢
        split
        · rfl
        · split at hj
          · rename_i hji
            subst hji
            rw [ho] at hoj
            injection hoj with hoj; subst hoj
            exact h3 e he hbe
          · exact hcl j oj e hj hoj he hbe
      have hcnt' : cnt all.length (fun j => (listed.setIfInBounds i true).getD j false) ≤ fuel := by
        have := cnt_set (n := all.length) (L := fun j => listed.getD j false) (L' := fun j => (listed.setIfInBounds i true).getD j false) h1 h2 (by simp only [set_getD (listed := listed) (i := i) (by omega : i < listed.size), if_pos]) (fun j hj => by simp only [set_getD (listed := listed) (i := i) (by omega : i < listed.size), if_neg hj])
        omega
      by_cases him : i < m
      · refine G_step (env0 := st.env) (hp := lkH (hpAt st.hp nb m)) (L := fun i => listed.getD i false) hG ho hA' him h2 (fun j hb => ?_) (fun s hno _ => (envAt_other fun j hj => hno j (by omega)).symm) (hran i o him ho) (hnbA i him) (hdisj i him) (hbig i him) (htr.dst i him) fun a' w' hG' => ?_
        · obtain ⟨e, he, hbe, rfl⟩ := binding_spec hb
          exact ⟨h3 e he hbe, by have := chkBack_spec hback ho he hbe; omega⟩
        · have hset : (fun j => (listed.setIfInBounds i true).getD j false) = fun j => if j = i then true else listed.getD j false := funext fun j => set_getD (by omega)
          refine ih _ a' w' (by simpa using hs) hcnt' hclosed ?_ ?_
          · intro j hj hj'
            rw [set_getD (by omega), if_neg (by omega)]
            exact hB j hj hj'
          · rw [hset]
            exact hG'
      · obtain ⟨E2, hi2, hE⟩ := stateOf listed a w hG
        exact lazy_next hNA hback hm (lazy_ok hNA hback hA' hm fuel) m (all.drop m) zs listed _ _ _ E2 a w rfl (Nat.le_refl _) hs hline (fun j hj hj' => by omega) hB hcl hK hi2 (Nat.le_refl _) hE i him h1 h2 o ho h3 hclosed hcnt'

end
end Go.Pv

/- Calls that write into a block of the caller's. -/
namespace Go.Pv


def owM (o : Ow) : Nat → Ow := fun b => if b = 0 then o else .pending

mutual
def flatD : D → Bool
  | .agg cs => flatL cs
  | .tup cs => flatL cs
  | .clo _ xs ys => flatL xs && flatL ys
  | .sl _ => true
  | .ptr _ => true
  | .iface _ d => flatD d
  | d => scal1 d
def flatL : List D → Bool
  | [] => true
  | d :: ds => flatD d && flatL ds
end

/-- Block b is block 0 to the callee. -/
def inB (b : Nat) : D → Option D
  | .os b' off len => if b' = b then some (.os 0 off len) else none
  | d => if flatD d = true then some d else none
def inL (b : Nat) : List D → Option (List D)
  | [] => some []
  | d :: ds => match inB b d, inL b ds with
    | some d', some ds' => some (d' :: ds')
    | _, _ => none
def hasOs (b : Nat) : List D → Bool
  | [] => false
  | .os b' _ _ :: ds => b' == b || hasOs b ds
  | _ :: ds => hasOs b ds

def outB (b : Nat) : D → D
  | .os _ off len => .os b off len
  | d => d
def outR (b : Nat) : D → D
  | .tup ds => .tup (ds.map (outB b))
  | d => outB b d
def okO : D → Bool
  | .os b _ _ => b == 0
  | d => scal1 d
def okOut : D → Bool
  | .tup ds => ds.all okO
  | d => okO d

/-- What a call comes to that may write into one block, number 0. -/
def ContractM (P : Program) (f : FuncId) (ds : List D) (blk : Blk) (r : D) (blk' : Blk) : Prop :=
  Runs P f ∧ scalR blk'.rows = true ∧ okOut r = true ∧ ∀ (S : Nat → Prop) (w : World) (args : Array Value) (o : Ow), (∀ g, S g → g < w.heap.size) → (o = .empty ∨ ∃ g a k sz, o = .lies g a k sz ∧ ¬ S g) → BlkOK w S (owM o) o blk →
    args.size = ds.length → (∀ (i : Nat) (v : Value) (d : D), args[i]? = some v → ds[i]? = some d → Rep w S (owM o) v d) →
    Calls P f args w fun e w' => (Below 0 w w' ∧ ∀ g, g < w.heap.size → (∀ a k sz, o ≠ .lies g a k sz) → w'.heap[g]? = w.heap[g]?) ∧
      ∃ v, e = .returned v ∧ BlkOK w' (fun _ => False) (owM o) o blk' ∧ Rep w' (fun _ => False) (owM o) v r

def evCallM (P : Program) (o : Op) (dst : Option Tmp) (st : St) (K : X → St → Prop) : Prop :=
  match o with
  | .call { callee := .value f, args := args, .. } =>
    match evalD st.env f with
    | .clo (.func g) xs ys => ∃ b blk args' r blk', lkH st.hp b = some blk ∧ scalR blk.rows = true ∧ inL b (xs ++ args.toList.map (evalD st.env) ++ ys) = some args' ∧ hasOs b (xs ++ args.toList.map (evalD st.env) ++ ys) = true ∧
        ContractM P g args' blk r blk' ∧ stepK st dst (outR b r) st.env (updH b blk' st.hp) K
    | _ => False
  | _ => False

def hpX (hp : Hp) (b : Nat) : Nat → Option Blk := fun c => if c = b then none else lkH hp c

mutual
/-- Block b is block 0 to the callee, the others are read-only. -/
def inX (hp : Hp) (b : Nat) : D → Option D
  | .os b' off len => if b' = b then some (.os 0 off len) else pur (hpX hp b) 64 (.os b' off len)
  | .op b' row off => if b' = b then some (.op 0 row off) else pur (hpX hp b) 64 (.op b' row off)
  | .clo fn xs ys => match inXL hp b xs, inXL hp b ys with
    | some xs', some ys' => some (.clo fn xs' ys')
    | _, _ => none
  | d => pur (hpX hp b) 64 d
def inXL (hp : Hp) (b : Nat) : List D → Option (List D)
  | [] => some []
  | d :: ds => match inX hp b d, inXL hp b ds with
    | some d', some ds' => some (d' :: ds')
    | _, _ => none
end
mutual
def hasX (b : Nat) : D → Bool
  | .os b' _ _ => b' == b
  | .op b' _ _ => b' == b
  | .clo _ xs ys => hasXL b xs || hasXL b ys
  | _ => false
def hasXL (b : Nat) : List D → Bool
  | [] => false
  | d :: ds => hasX b d || hasXL b ds
end

def evCallX (P : Program) (o : Op) (dst : Option Tmp) (st : St) (K : X → St → Prop) : Prop :=
  match o with
  | .call { callee := .value f, args := args, .. } =>
    match evalD st.env f with
    | .clo (.func g) xs ys => ∃ b blk args' r blk', lkH st.hp b = some blk ∧ scalR blk.rows = true ∧ inXL st.hp b (xs ++ args.toList.map (evalD st.env) ++ ys) = some args' ∧ hasXL b (xs ++ args.toList.map (evalD st.env) ++ ys) = true ∧
        ContractM P g args' blk r blk' ∧ stepK st dst (outR b r) st.env (updH b blk' st.hp) K
    | _ => False
  | _ => False

/-- The zero value of an element type has k cells. -/
def clrOK (P : Program) (e : TypeId) (k : Nat) : Bool := match P.info? e with
  | some i => match i.zero with
    | some z => z.cells.size == k && z.cells.all (·.oneCell')
    | none => false
  | none => false
/-- 'clear' of a part of an own list: of its rows those ahead of the part are kept. -/
def evClear (P : Program) (o : Op) (dst : Option Tmp) (st : St) (K : X → St → Prop) : Prop :=
  match o with
  | .call { callee := .builtin .clear, args := args, argTypes := ts } =>
    ∃ x t e b off len blk, args = #[x] ∧ ts = #[t] ∧ P.underlying t = some (.slice e) ∧ clrOK P e blk.k = true ∧ evalD st.env x = .os b off len ∧ lkH st.hp b = some blk ∧ scalR blk.rows = true ∧ off + len ≤ blk.rows.length ∧
      stepK st dst (.tup []) st.env (updH b ⟨blk.k, blk.flat, blk.rows.take off⟩ st.hp) K
  | _ => False

/-- A copy into a part of an own list. -/
def evCopy (P : Program) (o : Op) (dst : Option Tmp) (st : St) (K : X → St → Prop) : Prop :=
  match o with
  | .call { callee := .builtin .copy, args := args, argTypes := ts } => ∃ x y t e b off len m blk new fl rows, args = #[x, y] ∧ ts = #[t, t] ∧ P.underlying t = some (.slice e) ∧ 0 < P.cellsOf e ∧ evalD st.env x = .os b off len ∧ lkH st.hp b = some blk ∧
      blk.k = P.cellsOf e ∧ off + len ≤ blk.rows.length ∧ min len new.length = m ∧ 0 < m ∧ contentD (lkH st.hp) (evalD st.env y) = some new ∧ (∀ r ∈ new, r.length = P.cellsOf e) ∧ (∀ r ∈ new, ∀ c ∈ r, cell1 c = true) ∧
      rows = blk.rows.take off ++ new.take m ++ blk.rows.drop (off + m) ∧ (fl = true → flatRows rows = true) ∧
      kOK (lkH st.hp) (P.cellsOf e) (evalD st.env y) = true ∧ stepK st dst (.int .i64 m) st.env (updH b ⟨blk.k, fl, rows⟩ st.hp) K
  | _ => False

/-- A new map; a map's new key. -/
def evMap (P : Program) (o : Op) (id : Nat) (dst : Option Tmp) (st : St) (K : X → St → Prop) : Prop :=
  match o with
  | .makeMap _ none => stepK st dst (.om id) st.env ((id, ⟨0, true, []⟩) :: st.hp) K
  | .mapUpdate t m k v => ∃ b rows k' kt et td, P.underlying t = some (.map kt et) ∧ P.underlying kt = some td ∧ evalD st.env m = .om b ∧ lkH st.hp b = some ⟨k', true, rows⟩ ∧ keyOK td (evalD st.env k) = true ∧
      (valOf (evalD st.env v)).isSome = true ∧ findR td (evalD st.env k) rows = some none ∧ stepK st dst .skip st.env (updH b ⟨0, true, rows ++ [[evalD st.env k, evalD st.env v]]⟩ st.hp) K
  | _ => False

def evOpsM (P : Program) (all : List Oper) : List Oper → Nat → St → (X → St → Prop) → Prop
  | [], id, st, K => K .normal { st with nx := id }
  | o :: rest, id, st, K =>
    let k := fun x st' => match x with
      | .normal => evOpsM P all rest (id + 32) st' K
      | x => K x st'
    (match o.guard with
    | none => evOp P o.op id o.dst st k
    | some (j, want) =>
      match guardD all st.env j with
      | some (some b) => (b = want → evOp P o.op id o.dst st k) ∧ (b = (!want) → okDst st.n o.dst = true ∧ evOpsM P all rest (id + 32) (st.put o.dst .skip) K)
      | some none => okDst st.n o.dst = true ∧ evOpsM P all rest (id + 32) (st.put o.dst .skip) K
      | none => False) ∨ (o.guard = none ∧ (evCallM P o.op o.dst st k ∨ evClear P o.op o.dst st k ∨ evMap P o.op id o.dst st k ∨ evCallX P o.op o.dst st k ∨ evCopy P o.op o.dst st k))

section
variable {P : Program} {w w' w0 : World} {pu pu' Q : Nat → Prop} {S : Frm} {ow ow' : Nat → Ow} {base : Nat} {hp : Hp}

theorem flatL_mem : ∀ {ds : List D}, flatL ds = true → ∀ (i : Nat) (d : D), ds[i]? = some d → flatD d = true
  | [], _, i, d, h => by simp at h
  | e :: ds, hm, i, d, h => by
    simp only [flatL, Bool.and_eq_true] at hm
    cases i with
    | zero => simp at h; subst h; exact hm.1
    | succ i => exact flatL_mem hm.2 i d (by simpa using h)

theorem Rep.toP {v : Value} {d : D} (h : Rep w pu ow v d) : flatD d = true → RepP w pu v d := by
  induction h with
  | pure v d h => exact fun _ => h
  | agg vs cs hl _ ih => exact fun hr => .agg vs cs hl fun i v d h1 h2 => ih i v d h1 h2 (flatL_mem (by simpa [flatD] using hr) i d h2)
  | tup vs cs hl _ ih => exact fun hr => .tup vs cs hl fun i v d h1 h2 => ih i v d h1 h2 (flatL_mem (by simpa [flatD] using hr) i d h2)
  | clo fn xs ys cs ds hx _ hy _ ih ih' =>
    intro hr
    simp only [flatD, Bool.and_eq_true] at hr
    exact .clo fn xs ys cs ds hx (fun i v d h1 h2 => ih i v d h1 h2 (flatL_mem hr.1 i d h2)) hy fun i v d h1 h2 => ih' i v d h1 h2 (flatL_mem hr.2 i d h2)
  | iface t v d _ ih => exact fun hr => .iface t v d (ih (by simpa [flatD] using hr))
  | _ => intro hr; simp [flatD, scal1] at hr

theorem inL_get {b : Nat} : ∀ {ds ds' : List D}, inL b ds = some ds' → ds'.length = ds.length ∧ ∀ (i : Nat) (d' : D), ds'[i]? = some d' → ∃ d, ds[i]? = some d ∧ inB b d = some d'
  | [], ds', h => by simp [inL] at h; subst h; exact ⟨rfl, fun i d h => by simp at h⟩
  | d :: ds, ds', h => by
    simp only [inL] at h
    split at h
    · rename_i e es h1 h2
      injection h with h; subst h
      obtain ⟨h3, h4⟩ := inL_get h2
      refine ⟨by simp [h3], fun i d' hi => ?_⟩
      cases i with
      | zero => simp at hi; subst hi; exact ⟨d, rfl, h1⟩
      | succ i => obtain ⟨x, hx, hy⟩ := h4 i d' (by simpa using hi); exact ⟨x, by simpa using hx, hy⟩
    · cases h

theorem hasOs_get {b : Nat} : ∀ {ds : List D}, hasOs b ds = true → ∃ (i : Nat) (off len : Nat), ds[i]? = some (.os b off len)
  | [], h => by cases h
  | d :: ds, h => by
    have hr : hasOs b ds = true → ∃ (i : Nat) (off len : Nat), (d :: ds)[i]? = some (.os b off len) := fun h => by
      obtain ⟨i, o, l, hi⟩ := hasOs_get h
      exact ⟨i + 1, o, l, by simpa using hi⟩
    cases d with
    | os b' o l =>
      simp only [hasOs, Bool.or_eq_true, beq_iff_eq] at h
      rcases h with h | h
      · subst h; exact ⟨0, o, l, rfl⟩
      · exact hr h
    | _ => exact hr h

theorem inB_rep {b : Nat} {o : Ow} (ho : ow b = o) (hd : o ≠ .dead) {v : Value} {d d' : D} (h : Rep w pu ow v d) (hi : inB b d = some d') : Rep w pu (owM o) v d' := by
  unfold inB at hi
  split at hi
  · rename_i b' off len
    split at hi
    · rename_i e; subst e
      injection hi with hi; subst hi
      cases h with
      | pure _ _ h => cases h
      | osd a n c _ _ _ hb => exact (hd (ho ▸ hb)).elim
      | ose a _ _ hb => exact .ose a 0 off (by simp [owM, ← ho, hb])
      | osa a cap _ _ _ g o' k sz hb hl hm => exact .osa a cap 0 off len g o' k sz (by simp [owM, ← ho, hb]) hl hm
    · cases hi
  · split at hi
    · rename_i hf
      injection hi with hi; subst hi
      exact .pure _ _ (h.toP hf)
    · cases hi

theorem outB_rep {b : Nat} {o : Ow} (ho : ow b = o) {v : Value} {d : D} (h : Rep w Q (owM o) v d) (hk : okO d = true) : Rep w pu ow v (outB b d) := by
  unfold okO at hk
  split at hk
  · rename_i b' off len
    simp only [beq_iff_eq] at hk
    subst hk
    simp only [outB]
    cases h with
    | pure _ _ h => cases h
    | osd a n c _ _ _ hb => exact .osd a n c b off len (by rw [ho]; simpa [owM] using hb)
    | ose a _ _ hb => exact .ose a b off (by rw [ho]; simpa [owM] using hb)
    | osa a cap _ _ _ g o' k sz hb hl hm => exact .osa a cap b off len g o' k sz (by rw [ho]; simpa [owM] using hb) hl hm
  · have : outB b d = d := by cases d <;> first | rfl | cases hk
    rw [this]
    cases h with
    | pure _ _ h => exact .pure _ _ (scal1_zone h hk)
    | _ => cases hk

theorem outR_rep {b : Nat} {o : Ow} (ho : ow b = o) {v : Value} {r : D} (h : Rep w Q (owM o) v r) (hk : okOut r = true) : Rep w pu ow v (outR b r) := by
  unfold okOut at hk
  split at hk
  · rename_i ds
    obtain ⟨vs, rfl, h1, h2⟩ := h.tup_inv
    refine .tup vs (ds.map (outB b)) (by simp [h1]) fun i v d hv hd => ?_
    rw [List.getElem?_map] at hd
    obtain ⟨e, he, rfl⟩ := Option.map_eq_some_iff.1 hd
    exact outB_rep ho (h2 i v e hv he) (List.all_eq_true.1 hk e (List.mem_of_getElem? he))
  · rename_i hnt
    have : outR b r = outB b r := by
      cases r <;> first | rfl | exact (hnt _ rfl).elim
    rw [this]
    exact outB_rep ho h hk

/-- Memory behind a call that has written into one block. -/
theorem Mem.inplace (hm : Mem base w pu ow (lkH hp)) (hbase : base ≤ w.heap.size) {b : Nat} {blk blk' : Blk} {o : Ow} (hb : lkH hp b = some blk) (ho : ow b = o) (hbw : Below 0 w w')
    (hh : ∀ g, g < w.heap.size → (∀ a k sz, o ≠ .lies g a k sz) → w'.heap[g]? = w.heap[g]?) (hk : BlkOK w' Q (owM o) o blk') (hs : scalR blk'.rows = true) :
    Mem base w' pu ow (lkH (updH b blk' hp)) ∧ Ext w pu ow w' pu ow ∧ Below base w w' := by
  have hoth : ∀ g, (∀ a k sz, ow b ≠ .lies g a k sz) → g < w.heap.size → w'.heap[g]? = w.heap[g]? := fun g h1 h2 => hh g h2 (ho ▸ h1)
  have hext : Ext w pu ow w' pu ow := ⟨fun g hg => ⟨hg, hoth g (fun a k sz h => (hm.own b g a k sz h).2 hg) (hm.zone g hg)⟩, fun _ => .inr (.inl rfl)⟩
  refine ⟨⟨fun c blk2 hc => ?_, fun c hc => ?_, hm.injO, hm.ownO, fun g hg => Nat.lt_of_lt_of_le (hm.zone g hg) hbw.size⟩, hext, ⟨hbw.os, hbw.tape, hbw.output, hbw.size, fun g hg => ?_, hbw.drawn⟩⟩
  · rw [lkH_updH] at hc
    split at hc
    · rename_i h
      obtain ⟨rfl, _⟩ := h
      injection hc with hc; subst hc
      rw [ho]
      exact hk.rezone hs
    · rename_i h
      have hcb : c ≠ b := fun e => h ⟨e, by rw [hc]; rfl⟩
      exact (hm.blk c blk2 hc).mono hext fun g hat => hoth g (fun a' k' sz' h' => hcb (hm.injO c b _ hat (Ow.on_lies h'))) (hm.on_lt hat)
  · rw [lkH_updH] at hc
    split at hc
    · cases hc
    · exact hm.none c hc
  · exact hoth g (fun a k sz h' => by have := (hm.own b g a k sz h').1; omega) (by omega)

theorem evCallM_ok {o : Oper} {id : Nat} {st : St} {a : Act} {K : X → St → Prop} {N : Act → World → Prop} {R : Exit → Act → World → Prop}
    (hi : InvI w0 S id st a w) (h : evCallM P o.op o.dst st K) (hN : ∀ st' a' w', K .normal st' → InvI w0 S (id + 32) st' a' w' → N a' w') : o.wp P a w N R := by
  obtain ⟨pu, ow, hm, he, hb, hz, hid, hs, hd⟩ := hi
  unfold evCallM at h
  split at h
  · rename_i op f args ts ho
    split at h
    · rename_i g xs ys hfd
      obtain ⟨b, blk, args', r, blk', hlk, hsc, hin, hos, hcon, hst⟩ := h
      have hf := he.eval f
      rw [hfd] at hf
      obtain ⟨vx, vy, hfv, hlx, hrx, hly, hry⟩ := hf.clo_inv
      unfold Oper.wp
      rw [run_callF hcon.1 ho hfv, Oper.upon_enter]
      have hargs : ∀ (i : Nat) (v : Value) (d : D), (vx ++ args.map a.eval ++ vy)[i]? = some v → (xs ++ args.toList.map (evalD st.env) ++ ys)[i]? = some d → Rep w pu ow v d := by
        intro i v d h1 h2
        rw [Array.getElem?_append, Array.getElem?_append] at h1
        rw [List.getElem?_append, List.getElem?_append] at h2
        simp only [Array.size_append, Array.size_map, List.length_append, List.length_map, Array.length_toList, hlx] at h1 h2
        split at h1
        · rename_i hlt
          rw [if_pos hlt] at h2
          split at h1
          · rename_i hlt2
            rw [if_pos hlt2] at h2
            exact hrx i v d h1 h2
          · rename_i hlt2
            rw [if_neg hlt2] at h2
            rw [Array.getElem?_map] at h1
            rw [List.getElem?_map, Array.getElem?_toList] at h2
            obtain ⟨x, hx, rfl⟩ := Option.map_eq_some_iff.1 h1
            rw [hx] at h2
            injection h2 with h2; subst h2
            exact he.eval x
        · rename_i hlt
          rw [if_neg hlt] at h2
          exact hry _ v d h1 h2
      have hlen : (vx ++ args.map a.eval ++ vy).size = (xs ++ args.toList.map (evalD st.env) ++ ys).length := by simp [hlx, hly]
      generalize vx ++ args.map a.eval ++ vy = vs at hargs hlen
      generalize xs ++ args.toList.map (evalD st.env) ++ ys = ds at hargs hlen hin hos
      have hblk := hm.blk b blk hlk
      have hnd : ow b ≠ .dead := fun h => by rw [h] at hblk; exact hblk.2
      have howb : ow b = .empty ∨ ∃ g a k sz, ow b = .lies g a k sz ∧ ¬ pu g := by
        obtain ⟨i, off, len, hi⟩ := hasOs_get hos
        have hv := hargs i _ _ (Array.getElem?_eq_getElem (by rw [hlen]; exact (List.getElem?_eq_some_iff.1 hi).1)) hi
        generalize vs[i]'_ = v at hv
        cases hv with
        | pure _ _ h => cases h
        | osd a n c _ _ _ h => exact (hnd h).elim
        | ose a _ _ h => exact .inl h
        | osa a cap _ _ _ g o k sz h _ _ => exact .inr ⟨g, o, k, sz, h, (hm.own b g o k sz h).2⟩
      obtain ⟨h1, h2⟩ := inL_get hin
      have hbk : BlkOK w pu (owM (ow b)) (ow b) blk := hblk.rezone hsc
      refine (hcon.2.2.2 pu w vs (ow b) hm.zone howb hbk (by omega) fun i v d hv hd => ?_).mono fun e w' ⟨⟨hbw, hh⟩, v, hev, hk', hrep⟩ => ?_
      · obtain ⟨d0, hd0, hi0⟩ := h2 i d hd
        exact inB_rep rfl hnd (hargs i v d0 hv hd0) hi0
      · subst hev
        obtain ⟨m1, m2, m3⟩ := hm.inplace hb.size hlk rfl hbw hh hk' hcon.2.1
        exact hN _ _ _ hst.2 ⟨pu, ow, m1, (he.mono m2).put (by rw [hs]; exact hst.1) (outR_rep rfl hrep hcon.2.2.1), hb.trans m3, hz, fun c hc => hid c (by omega), by rw [put_size]; exact hs, by rw [put_defers]; exact hd.1, hd.2.step m2 fun _ => .inr rfl⟩
    · exact h.elim
  · exact h.elim

theorem blk_take {o : Ow} {blk : Blk} (h : BlkOK w pu ow o blk) (hno : ∀ g, o ≠ .mp g) (n : Nat) : BlkOK w pu ow o ⟨blk.k, blk.flat, blk.rows.take n⟩ := by
  refine ⟨fun hf => ?_, ?_⟩
  · have := h.1 hf
    simp only [flatRows, List.all_eq_true] at this ⊢
    exact fun r hr => this r (List.mem_of_mem_take hr)
  · have h2 := h.2
    cases o with
    | dead => exact h2
    | pending => trivial
    | empty => simp only at h2 ⊢; rw [h2]; simp
    | mp g => exact (hno g rfl).elim
    | lies g o k sz =>
      obtain ⟨k1, k2, k3, k4, c, t, k5, k6, k7⟩ := h2
      refine ⟨k1, k2, fun r hr => k3 r (List.mem_of_mem_take hr), ?_, c, t, k5, k6, fun i j d hd => k7 i j d ?_⟩
      · have : (blk.rows.take n).length * k ≤ blk.rows.length * k := Nat.mul_le_mul_right k (by rw [List.length_take]; omega)
        show o + (blk.rows.take n).length * k ≤ sz
        omega
      · unfold cellAt at hd ⊢
        rw [List.getElem?_take] at hd
        split at hd
        · exact hd
        · cases hd
theorem scal1_world {w w' : World} {pu pu' : Nat → Prop} {v : Value} {d : D} (h : RepP w pu v d) (hs : scal1 d = true) : RepP w' pu' v d := by
  cases h with
  | undef v => exact .undef v
  | skip => exact .skip
  | int k n => exact .int k n
  | bool b => exact .bool b
  | str s => exact .str s
  | float k n => exact .float k n
  | nilptr => exact .nilptr
  | nilfunc => exact .nilfunc
  | nilif => exact .nilif
  | _ => cases hs
theorem scalR_take {rows : List (List D)} (h : scalR rows = true) (n : Nat) : scalR (rows.take n) = true := by
  simp only [scalR, List.all_eq_true] at h ⊢
  exact fun r hr => h r (List.mem_of_mem_take hr)
theorem zeroCells_len (z : Array Value) (n : Nat) : (Builtin.zeroCells z n).toList.length = n * z.size := by simp [Builtin.zeroCells]
theorem zeroCells_one {z : Array Value} (h : ∀ v ∈ z, v.oneCell' = true) (n : Nat) : ∀ v ∈ (Builtin.zeroCells z n).toList, v.oneCell' = true := by
  intro v hv
  simp only [Builtin.zeroCells, Array.toList_map, List.mem_map, Array.toList_range, List.mem_range] at hv
  obtain ⟨i, hi, rfl⟩ := hv
  have hz : 0 < z.size := by
    rcases Nat.eq_zero_or_pos z.size with h0 | h0
    · rw [h0, Nat.mul_zero] at hi; omega
    · exact h0
  have hlt : i % z.size < z.size := Nat.mod_lt _ hz
  rw [getElem!_pos z _ hlt]
  exact h _ (Array.getElem_mem _)
theorem run_zero_clr {e : TypeId} {k : Nat} (h : clrOK P e k = true) : ∃ i z, P.info? e = some i ∧ i.zero = some z ∧ z.cells.size = k ∧ ∀ v ∈ z.cells, v.oneCell' = true := by
  unfold clrOK at h
  split at h
  · rename_i i hi
    split at h
    · rename_i z hz
      simp only [Bool.and_eq_true, beq_iff_eq, Array.all_eq_true_iff_forall_mem] at h
      exact ⟨i, z, hi, hz, h.1, h.2⟩
    · cases h
  · cases h
theorem evClear_ok {o : Oper} {id : Nat} {st : St} {a : Act} {K : X → St → Prop} {N : Act → World → Prop} {R : Exit → Act → World → Prop}
    (hi : InvI w0 S id st a w) (h : evClear P o.op o.dst st K) (hN : ∀ st' a' w', K .normal st' → InvI w0 S (id + 32) st' a' w' → N a' w') : o.wp P a w N R := by
  obtain ⟨pu, ow, hm, he, hb, hz, hid, hs, hd⟩ := hi
  unfold evClear at h
  split at h
  · rename_i op args ts ho
    obtain ⟨x, t, e, b, off, len, blk, rfl, rfl, hu, hclr, hx, hlk, hsc, hle, hst⟩ := h
    have hv := he.eval x
    rw [hx] at hv
    have hblk := hm.blk b blk hlk
    have hbk : BlkOK w pu (owM (ow b)) (ow b) blk := hblk.rezone hsc
    have hrunof : ∀ w', (Builtin.clear_ #[t] o.type #[a.eval x]).run P w = .ok (.tuple #[]) w' → (execOp a.eval o).run P w = .ok (.value (.tuple #[])) w' := by
      intro w' hr
      obtain ⟨dst, op, ty, pos, after, guard⟩ := o
      simp only at ho hr
      subst ho
      simp [execOp, resolve, invoke, builtin, hr]
    have done : ∀ w', (Builtin.clear_ #[t] o.type #[a.eval x]).run P w = .ok (.tuple #[]) w' → Below 0 w w' → (∀ g, g < w.heap.size → (∀ a k sz, ow b ≠ .lies g a k sz) → w'.heap[g]? = w.heap[g]?) →
        BlkOK w' pu (owM (ow b)) (ow b) ⟨blk.k, blk.flat, blk.rows.take off⟩ → o.wp P a w N R := by
      intro w' hr hbw hh hk'
      obtain ⟨m1, m2, m3⟩ := hm.inplace hb.size hlk rfl hbw hh hk' (scalR_take hsc off)
      exact stepK_ok m1 (he.mono m2) (hb.trans m3) hz (fun c hc => hid c (by omega)) hs ⟨hd.1, hd.2.step m2 fun _ => .inr rfl⟩ (hrunof w' hr) (.tup _ _ rfl fun i v d h1 h2 => by simp at h2) hst hN
    have none_case : ∀ (p : Option Addr) (c : Nat), a.eval x = .slice p 0 c → (∀ g, ow b ≠ .mp g) → o.wp P a w N R := by
      intro p c hval hno
      refine done w ?_ (Below.refl _ _) (fun _ _ _ => rfl) (blk_take hbk hno off)
      rw [hval]
      cases p <;> simp [Builtin.clear_, run_underlying hu]
    generalize hva : a.eval x = va at hv
    cases hv with
    | pure _ _ h => cases h
    | osd a n c _ _ _ hdd => rw [hdd] at hblk; exact hblk.2.elim
    | ose a' _ _ hem => exact none_case a' 0 hva (by rw [hem]; simp)
    | osa a' cap _ _ _ g o' k sz hat hl hmm =>
      by_cases hlen : len = 0
      · subst hlen; exact none_case a' cap hva (by rw [hat]; simp)
      obtain ⟨rfl, hfit⟩ := hmm (by omega)
      rw [hat] at hbk
      obtain ⟨h1, h2, h3, h4, h5, c, ct, h6, h7, h8⟩ := hbk
      obtain ⟨i, z, hi, hzz, hzs, hzo⟩ := run_zero_clr hclr
      have hkk : blk.k = k := h2
      have hlenc : (Builtin.zeroCells z.cells len).toList.length = len * k := by rw [zeroCells_len, hzs, hkk]
      have hroom : o' + off * k + 0 + (Builtin.zeroCells z.cells len).toList.length ≤ c.size := by
        rw [hlenc, h7]
        have := Nat.mul_le_mul_right k (show off + len ≤ blk.rows.length from hle)
        rw [Nat.add_mul] at this
        omega
      have hrun := run_storeCells_at (P := P) g (o' + off * k) ct (Builtin.zeroCells z.cells len).toList 0 c w h6 hroom (zeroCells_one hzo len)
      refine done (w.setRow g (c.toList.take (o' + off * k + 0) ++ (Builtin.zeroCells z.cells len).toList ++ c.toList.drop (o' + off * k + 0 + (Builtin.zeroCells z.cells len).toList.length)).toArray) (by
        rw [hva]
        obtain ⟨m, rfl⟩ : ∃ m, len = m + 1 := ⟨len - 1, by omega⟩
        simp [Builtin.clear_, zeroValue, typeInfo, run_underlying hu, hi, hzz, hrun]) ⟨rfl, rfl, rfl, by simp, fun q hq => absurd hq (Nat.not_lt_zero q), .same rfl⟩ (fun q hq hno => setRow_other w g q _ (by rintro rfl; exact hno _ _ _ hat)) ?_
      rw [hat]
      have hb' : BlkOK w pu (owM (.lies g o' k sz)) (.lies g o' k sz) ⟨blk.k, blk.flat, blk.rows.take off⟩ := blk_take (o := .lies g o' k sz) (blk := blk) ⟨h1, h2, h3, h4, h5, c, ct, h6, h7, h8⟩ (by simp) off
      obtain ⟨g1, g2, g3, g4, g5, _⟩ := hb'
      refine ⟨g1, g2, g3, g4, g5, _, ct, setRow_heap w g c _ ct _ h6, ?_, ?_⟩
      · have : (c.toList.take (o' + off * k + 0) ++ (Builtin.zeroCells z.cells len).toList ++ c.toList.drop (o' + off * k + 0 + (Builtin.zeroCells z.cells len).toList.length)).length = sz := by
          simp only [List.length_append, List.length_take, List.length_drop, Array.length_toList, hlenc, h7]
          rw [hlenc, h7] at hroom
          omega
        simpa using this
      · intro i j d hd
        have hij : cellAt blk.rows i j = some d ∧ i < off ∧ j < k := by
          unfold cellAt at hd ⊢
          obtain ⟨r, hr, hj⟩ := Option.bind_eq_some_iff.1 hd
          have hr' := hr
          rw [List.getElem?_take] at hr
          split at hr
          · rename_i hlt
            refine ⟨by rw [hr]; exact hj, hlt, ?_⟩
            have := h4 r (List.mem_of_getElem? hr)
            rw [← this]; exact (List.getElem?_eq_some_iff.1 hj).1
          · cases hr
        obtain ⟨v, hv, hr⟩ := h8 i j d hij.1
        have hlt : o' + i * k + j < o' + off * k := by
          have := Nat.mul_le_mul_right k (show i + 1 ≤ off from hij.2.1)
          rw [Nat.add_mul] at this
          omega
        have hsd : scal1 d = true := by
          unfold cellAt at hd
          obtain ⟨r, hr', hj⟩ := Option.bind_eq_some_iff.1 hd
          exact List.all_eq_true.1 (List.all_eq_true.1 (scalR_take hsc off) r (List.mem_of_getElem? hr')) d (List.mem_of_getElem? hj)
        refine ⟨v, ?_, ?_⟩
        · rw [List.getElem?_toArray, List.append_assoc, List.getElem?_append_left (by rw [List.length_take, Array.length_toList]; have := (Array.getElem?_eq_some_iff.1 hv).1; omega), List.getElem?_take, if_pos (by omega), Array.getElem?_toList]
          exact hv
        · cases hr with
          | pure _ _ hp => exact .pure _ _ (scal1_world hp hsd)
          | _ => cases hsd
  · exact h.elim

/-- A map's block turned. -/
theorem Mem.mapPut (hm : Mem base w pu ow (lkH hp)) {b g : Nat} {blk blk' : Blk} (hb : lkH hp b = some blk) (hat : ow b = .mp g) (o : Obj) (hk : BlkOK { w with heap := w.heap.setIfInBounds g o } pu ow (.mp g) blk') :
    Mem base { w with heap := w.heap.setIfInBounds g o } pu ow (lkH (updH b blk' hp)) ∧ Ext w pu ow { w with heap := w.heap.setIfInBounds g o } pu ow ∧ Below base w { w with heap := w.heap.setIfInBounds g o } := by
  have hoth : ∀ x, x ≠ g → (w.heap.setIfInBounds g o)[x]? = w.heap[x]? := fun x hx => by rw [Array.getElem?_setIfInBounds, if_neg (fun e => hx e.symm)]
  have hext : Ext w pu ow { w with heap := w.heap.setIfInBounds g o } pu ow := ⟨fun x hx => ⟨hx, hoth x (by rintro rfl; exact (hm.ownO b _ (Ow.on_mp hat)).2 hx)⟩, fun _ => .inr (.inl rfl)⟩
  refine ⟨⟨fun c blk2 hc => ?_, fun c hc => ?_, hm.injO, hm.ownO, fun x hx => ?_⟩, hext, ⟨rfl, rfl, rfl, by simp, fun x hx => hoth x ?_, .same rfl⟩⟩
  · rw [lkH_updH] at hc
    split at hc
    · rename_i h
      obtain ⟨rfl, _⟩ := h
      injection hc with hc; subst hc
      rw [hat]; exact hk
    · rename_i h
      have hcb : c ≠ b := fun e => h ⟨e, by rw [hc]; rfl⟩
      exact (hm.blk c blk2 hc).mono hext fun x hx => hoth x (by rintro rfl; exact hcb (hm.injO c b _ hx (Ow.on_mp hat)))
  · rw [lkH_updH] at hc
    split at hc
    · cases hc
    · exact hm.none c hc
  · show x < (w.heap.setIfInBounds g o).size
    simpa using hm.zone x hx
  · have := (hm.ownO b _ (Ow.on_mp hat)).1
    omega

theorem evCopy_ok {o : Oper} {id : Nat} {st : St} {a : Act} {K : X → St → Prop} {N : Act → World → Prop} {R : Exit → Act → World → Prop}
    (hi : InvI w0 S id st a w) (h : evCopy P o.op o.dst st K) (hN : ∀ st' a' w', K .normal st' → InvI w0 S (id + 32) st' a' w' → N a' w') : o.wp P a w N R := by
  obtain ⟨pu, ow, hm, he, hb, hz, hid, hs, hd⟩ := hi
  have hid' : ∀ b, id + 32 ≤ b → ow b = .pending := fun b hb => hid b (by omega)
  unfold evCopy at h
  split at h
  · rename_i op args ts hop
    obtain ⟨x, y, t, e, b, off, len, m, blk, new, fl, rows, rfl, rfl, hu, hpos, hx, hlk, hbk, hbl, hmin, hm0, hcont, hnr, hnc, hrows, hnf, hky, hst⟩ := h
    have hvx := he.eval x
    rw [hx] at hvx
    obtain ⟨ad, cap, hxv, hcase⟩ := hvx.os_inv (hm.live hlk)
    rcases hcase with ⟨_, h0, _⟩ | ⟨g, o', k, sz, hat, hlc, hmm⟩
    · omega
    obtain ⟨rfl, hsz⟩ := hmm (by omega)
    have hblk := hm.blk b blk hlk
    rw [hat] at hblk
    obtain ⟨hfl, h1, h2, h3, h4, c, ct, h5, h6, h7⟩ := hblk
    have hkk : k = P.cellsOf e := by rw [← h1]; exact hbk
    subst hkk
    obtain ⟨ay, capy, F, hyv, hly, hgy, hFy⟩ := content_ok (k := P.cellsOf e) hm hpos hnr (he.eval y) (fun b' off' len' blk' hd' hb' => by
      rw [hd'] at hky
      simp only [kOK, hb', Bool.or_eq_true, beq_iff_eq] at hky
      exact hky) hcont
    obtain ⟨gy, oy, rfl, hcy⟩ := hgy (by intro hh; rw [hh] at hmin; simp at hmin; omega)
    have hmn : m ≤ new.length := by omega
    have hfit : o' + off * P.cellsOf e + m * P.cellsOf e ≤ c.toList.length := by
      have := Nat.mul_le_mul_right (P.cellsOf e) (show off + m ≤ off + cap by omega)
      rw [Nat.add_mul] at this
      simp only [Array.length_toList, h6]
      omega
    have hmk := Nat.mul_le_mul_right (P.cellsOf e) hmn
    have hone : ∀ v ∈ (List.range (m * P.cellsOf e)).map F, v.oneCell' = true := by
      intro v hv
      obtain ⟨q, hq, rfl⟩ := List.mem_map.1 hv
      rw [List.mem_range] at hq
      have hq' : q / P.cellsOf e < new.length := Nat.div_lt_of_lt_mul (by rw [Nat.mul_comm]; omega)
      have hmod := Nat.mod_lt q hpos
      have hrow := hnr _ (List.getElem_mem hq')
      have hd' : cellAt new (q / P.cellsOf e) (q % P.cellsOf e) = some ((new[q / P.cellsOf e]'hq')[q % P.cellsOf e]'(by omega)) := by
        simp [cellAt, List.getElem?_eq_getElem hq', List.getElem?_eq_getElem (show q % P.cellsOf e < (new[q / P.cellsOf e]'hq').length by omega)]
      have := hFy _ _ _ hd'
      rw [Nat.mul_comm, Nat.div_add_mod] at this
      exact cell1_one this (hnc _ (List.getElem_mem hq') _ (List.getElem_mem _))
    have hcsl : ((List.range (m * P.cellsOf e)).map F).length = m * P.cellsOf e := by simp
    have hst0 := run_storeCells_at (P := P) g (o' + off * P.cellsOf e) ct ((List.range (m * P.cellsOf e)).map F) 0 c w h5 (by rw [hcsl]; simpa using hfit) hone
    have hspl : (c.toList.take (o' + off * P.cellsOf e + 0) ++ (List.range (m * P.cellsOf e)).map F ++ c.toList.drop (o' + off * P.cellsOf e + 0 + ((List.range (m * P.cellsOf e)).map F).length)) = spliceL c.toList (o' + off * P.cellsOf e) ((List.range (m * P.cellsOf e)).map F) := by simp [spliceL]
    rw [hspl] at hst0
    have hload := run_loadCells (P := P) w ⟨gy, oy, none⟩ (m * P.cellsOf e) F (fun j hj => by rw [Addr.add_spotless]; exact hcy j (by omega))
    have hll : o' + off * P.cellsOf e + ((List.range (m * P.cellsOf e)).map F).length ≤ c.toList.length := by rw [hcsl]; exact hfit
    have hcopy : (Builtin.copy_ #[t, t] o.type #[.slice (some ⟨g, o' + off * P.cellsOf e, none⟩) len cap, .slice (some ⟨gy, oy, none⟩) new.length capy]).run P w = .ok (goInt m) (w.setRow g (spliceL c.toList (o' + off * P.cellsOf e) ((List.range (m * P.cellsOf e)).map F)).toArray) := by
      have hmin' : Nat.min new.length len = m := by show min new.length len = m; rw [Nat.min_comm]; exact hmin
      simp only [Builtin.copy_, Sem.run_bind, run_underlying hu, Builtin.lenOf, Builtin.firstCells, run_sizeOf' hpos, hmin', Result.andThen_ok, Sem.run_pure, List.getElem?_toArray, List.getElem?_cons_zero, List.getElem?_cons_succ, hload, hst0]
    have hrun : (execOp a.eval o).run P w = .ok (.value (.int .i64 m)) (w.setRow g (spliceL c.toList (o' + off * P.cellsOf e) ((List.range (m * P.cellsOf e)).map F)).toArray) := by
      obtain ⟨dst, op, ty, pos, after, guard⟩ := o
      simp only at hop hcopy
      subst hop
      simp [execOp, resolve, invoke, builtin, hxv, hyv, hcopy, goInt]
    have hto : (blk.rows.take off).length = off := by rw [List.length_take]; omega
    have htm : (new.take m).length = m := by rw [List.length_take]; omega
    have hrl : rows.length = blk.rows.length := by rw [hrows]; simp; omega
    obtain ⟨m1, m2⟩ := hm.store (blk' := ⟨blk.k, fl, rows⟩) hlk hat (spliceL c.toList (o' + off * P.cellsOf e) ((List.range (m * P.cellsOf e)).map F)).toArray
      (by rw [List.size_toArray, spliceL_length hll]; simpa using h6) hnf rfl hrl (fun r hr => by
        simp only [hrows, List.mem_append] at hr
        rcases hr with (hr | hr) | hr
        · exact h3 r (List.mem_of_mem_take hr)
        · exact hnr r (List.mem_of_mem_take hr)
        · exact h3 r (List.mem_of_mem_drop hr))
      (fun i j d hd' => by
        have hd2 := hd'
        unfold cellAt at hd'
        obtain ⟨r, hr, hj⟩ := Option.bind_eq_some_iff.1 hd'
        have hjk : j < P.cellsOf e := by
          have := (List.getElem?_eq_some_iff.1 hj).1
          have hmem := List.mem_of_getElem? hr
          simp only [hrows, List.mem_append] at hmem
          rcases hmem with (hmem | hmem) | hmem
          · rw [h3 r (List.mem_of_mem_take hmem)] at this; exact this
          · rw [hnr r (List.mem_of_mem_take hmem)] at this; exact this
          · rw [h3 r (List.mem_of_mem_drop hmem)] at this; exact this
        have hr' : rows[i]? = if i < off then blk.rows[i]? else if i < off + m then new[i - off]? else blk.rows[i]? := by
          rw [hrows, List.append_assoc, List.getElem?_append, hto]
          split
          · rename_i hlt
            rw [List.getElem?_take, if_pos hlt]
          · rename_i hlt
            rw [List.getElem?_append, htm]
            by_cases hl2 : i < off + m
            · rw [if_pos (by omega), if_pos hl2, List.getElem?_take, if_pos (by omega)]
            · rw [if_neg (by omega), if_neg hl2, List.getElem?_drop, show off + m + (i - off - m) = i by omega]
        rw [hr] at hr'
        by_cases hin : off ≤ i ∧ i < off + m
        · rw [if_neg (by omega), if_pos hin.2] at hr'
          have hcell : cellAt new (i - off) j = some d := by simp [cellAt, ← hr', hj]
          have hlt : (i - off) * P.cellsOf e + j < m * P.cellsOf e := by
            have := Nat.mul_le_mul_right (P.cellsOf e) (show i - off + 1 ≤ m by omega)
            rw [Nat.add_mul] at this
            omega
          have hoi : o' + i * P.cellsOf e + j - (o' + off * P.cellsOf e) = (i - off) * P.cellsOf e + j := by
            have : i * P.cellsOf e = off * P.cellsOf e + (i - off) * P.cellsOf e := by rw [← Nat.add_mul, show off + (i - off) = i by omega]
            omega
          refine ⟨F ((i - off) * P.cellsOf e + j), ?_, hFy _ j d hcell⟩
          have hoff : off * P.cellsOf e ≤ i * P.cellsOf e := Nat.mul_le_mul_right _ hin.1
          have : i * P.cellsOf e = off * P.cellsOf e + (i - off) * P.cellsOf e := by rw [← Nat.add_mul, show off + (i - off) = i by omega]
          rw [List.getElem?_toArray, spliceL_get hll, if_pos (by rw [hcsl]; omega), hoi]
          exact range_map_get hlt
        · have hold : blk.rows[i]? = some r := by
            rcases Nat.lt_or_ge i off with h' | h'
            · rw [if_pos h'] at hr'; exact hr'.symm
            · rw [if_neg (by omega), if_neg (by omega)] at hr'; exact hr'.symm
          obtain ⟨v, hv, hrep⟩ := h7 i j d (by simp [cellAt, hold, hj])
          refine ⟨v, ?_, hrep⟩
          rw [List.getElem?_toArray, spliceL_get hll, if_neg ?_, Array.getElem?_toList]
          · exact hv
          · rw [hcsl]
            rintro ⟨q1, q2⟩
            apply hin
            constructor
            · refine Nat.not_lt.1 fun hlt => ?_
              have := Nat.mul_le_mul_right (P.cellsOf e) (show i + 1 ≤ off by omega)
              rw [Nat.add_mul] at this
              omega
            · refine Nat.not_le.1 fun hlt => ?_
              have := Nat.mul_le_mul_right (P.cellsOf e) hlt
              rw [Nat.add_mul] at this
              omega)
    have hhp : lkH (updH b ⟨blk.k, fl, rows⟩ st.hp) = setH b ⟨blk.k, fl, rows⟩ (lkH st.hp) := by
      funext z
      rw [lkH_updH]
      unfold setH
      by_cases hz' : z = b
      · subst hz'; simp [hlk]
      · simp [hz']
    rw [← hhp] at m1
    exact stepK_ok m1 (he.mono m2) (hb.trans (below_setRow' (Below.refl _ _) (hm.own b _ _ _ _ hat).1 _)) hz hid' hs ⟨hd.1, hd.2.step m2 fun _ => .inr rfl⟩ hrun (.pure _ _ (.int _ _)) hst hN
  · exact h.elim

theorem evMap_ok {o : Oper} {id : Nat} {st : St} {a : Act} {K : X → St → Prop} {N : Act → World → Prop} {R : Exit → Act → World → Prop}
    (hi : InvI w0 S id st a w) (h : evMap P o.op id o.dst st K) (hN : ∀ st' a' w', K .normal st' → InvI w0 S (id + 32) st' a' w' → N a' w') : o.wp P a w N R := by
  obtain ⟨pu, ow, hm, he, hb, hz, hid, hs, hd⟩ := hi
  have hid' : ∀ b, id + 32 ≤ b → ow b = .pending := fun b hb => hid b (by omega)
  unfold evMap at h
  split at h
  · rename_i op t hop
    have hm' : Mem w0.heap.size w pu ow (lkH ((id, ⟨0, true, []⟩) :: st.hp)) := by
      refine ⟨fun b blk' hb' => ?_, fun b hb' => ?_, hm.injO, hm.ownO, hm.zone⟩
      · simp only [lkH] at hb'
        split at hb'
        · rename_i hbi
          subst hbi
          rw [hid b (Nat.le_refl _)]
          injection hb' with hb'; subst hb'
          exact ⟨fun _ => rfl, trivial⟩
        · exact hm.blk b blk' hb'
      · simp only [lkH] at hb'
        split at hb'
        · cases hb'
        · exact hm.none b hb'
    have hpid := hid id (Nat.le_refl _)
    obtain ⟨m1, m2⟩ := hm'.newMap (blk := ⟨0, true, []⟩) hpid (by simp [lkH]) hb.size rfl ⟨rfl, rfl⟩
    refine stepK_ok m1 (he.mono m2) (hb.trans ((below_alloc w _).mono hb.size)) hz (fun b hb' => by rw [setO_other (by omega)]; exact hid' b hb') hs ⟨hd.1, hd.2.step m2 fun c => by by_cases hc : c = id; (subst hc; exact .inl hpid); exact .inr (setO_other hc)⟩ (v := .map (some w.heap.size)) ?_ (.oma _ _ (setO_same _ _ _)) h hN
    obtain ⟨dst, op, ty, pos, after, guard⟩ := o
    simp only at hop
    subst hop
    simp [execOp, Instr.makeMap]
  · rename_i op t m k v hop
    obtain ⟨b, rows, k', kt, et, td, hu, htd, hmd, hlk, hkey, hval, hfind, hst⟩ := h
    have hme := he.eval m
    rw [hmd] at hme
    obtain ⟨g, hat, hmv⟩ := hme.om_inv (hm.live hlk)
    have hblk := hm.blk b _ hlk
    rw [hat] at hblk
    obtain ⟨hfl, hk0, es, clock, hg, hrows⟩ := hblk
    obtain ⟨kv, hk1, hkk⟩ := keyOK_val hkey
    obtain ⟨vv, hv1⟩ := Option.isSome_iff_exists.1 hval
    have ekv := valOf_rep (he.eval k) hk1
    have evv := valOf_rep (he.eval v) hv1
    have hfn := findNow_ok hk1 rows es.toList 0 _ hrows hfind
    have hget := MapKept.run_getObj_map (P := P) hg
    have hchk := MapKept.run_checkKey (P := P) (w := w) htd hkk false 9999
    have hfk := MapKept.run_findKey (P := P) (w := w) htd hfn
    have hset := MapKept.run_setObj_map (P := P) (w := w) (.map (es.push { key := kv, val := vv, born := clock }) (clock + 1)) hg
    have hlite : ∀ {d : D} {u : Value}, valOf d = some u → lite d = true := fun {d u} h => by cases d <;> simp [valOf] at h <;> rfl
    obtain ⟨m1, m2, m3⟩ := hm.mapPut (blk' := ⟨0, true, rows ++ [[evalD st.env k, evalD st.env v]]⟩) hlk hat (.map (es.push { key := kv, val := vv, born := clock }) (clock + 1)) ⟨fun _ => by
        have h0 := hfl rfl
        simp only [flatRows, List.all_append, Bool.and_eq_true] at h0 ⊢
        refine ⟨h0, ?_⟩
        simp [hlite hk1, hlite hv1], ⟨rfl, rfl⟩, es.push { key := kv, val := vv, born := clock }, clock + 1, by
        show (w.heap.setIfInBounds g _)[g]? = _
        rw [Array.getElem?_setIfInBounds, if_pos rfl, if_pos (Array.getElem?_eq_some_iff.1 hg).1], by
        have h0 : MapRows es.toList rows := hrows
        unfold MapRows at h0 ⊢
        simp [h0, hk1, hv1]⟩
    have hrun : (execOp a.eval o).run P w = .ok .skip { w with heap := w.heap.setIfInBounds g (.map (es.push { key := kv, val := vv, born := clock }) (clock + 1)) } := by
      obtain ⟨dst, op, ty, pos, after, guard⟩ := o
      simp only at hop
      subst hop
      simp [execOp, Instr.mapUpdate, hmv, ekv, evv, run_underlying hu, hget, hchk, hfk, hset, Result.andThen]
    unfold Oper.wp
    rw [hrun, Oper.upon_skip]
    exact hN _ _ _ hst.2 ⟨pu, ow, m1, (he.mono m2).put (by rw [hs]; exact hst.1) (.pure _ _ .skip), hb.trans m3, hz, hid', by rw [put_size]; exact hs, by rw [put_defers]; exact hd.1, hd.2.step m2 fun _ => .inr rfl⟩
  · exact h.elim

theorem inXL_get {b : Nat} : ∀ {ds ds' : List D}, inXL hp b ds = some ds' → ds'.length = ds.length ∧ ∀ (i : Nat) (d' : D), ds'[i]? = some d' → ∃ d, ds[i]? = some d ∧ inX hp b d = some d'
  | [], ds', h => by simp [inXL] at h; subst h; exact ⟨rfl, fun i d h => by simp at h⟩
  | d :: ds, ds', h => by
    simp only [inXL] at h
    split at h
    · rename_i e es h1 h2
      injection h with h; subst h
      obtain ⟨h3, h4⟩ := inXL_get h2
      refine ⟨by simp [h3], fun i d' hi => ?_⟩
      cases i with
      | zero => simp at hi; subst hi; exact ⟨d, rfl, h1⟩
      | succ i => obtain ⟨x, hx, hy⟩ := h4 i d' (by simpa using hi); exact ⟨x, by simpa using hx, hy⟩
    · cases h

theorem hasXL_get {b : Nat} : ∀ {ds : List D}, hasXL b ds = true → ∃ (i : Nat) (d : D), ds[i]? = some d ∧ hasX b d = true
  | [], h => by simp [hasXL] at h
  | d :: ds, h => by
    simp only [hasXL, Bool.or_eq_true] at h
    rcases h with h | h
    · exact ⟨0, d, rfl, h⟩
    · obtain ⟨i, e, hi, he⟩ := hasXL_get h
      exact ⟨i + 1, e, by simpa using hi, he⟩

theorem hasX_ow {b : Nat} (hnd : ow b ≠ .dead) {v : Value} {d : D} (h : Rep w pu ow v d) : hasX b d = true → ow b = .empty ∨ ∃ g a k sz, ow b = .lies g a k sz := by
  induction h with
  | clo fn xs ys cs ds hx h1 hy h2 ih1 ih2 =>
    intro hh
    simp only [hasX, Bool.or_eq_true] at hh
    rcases hh with hh | hh
    · obtain ⟨i, e, hi, he⟩ := hasXL_get hh
      have hlt : i < cs.length := (List.getElem?_eq_some_iff.1 hi).1
      exact ih1 i _ e (Array.getElem?_eq_getElem (by omega)) hi he
    · obtain ⟨i, e, hi, he⟩ := hasXL_get hh
      have hlt : i < ds.length := (List.getElem?_eq_some_iff.1 hi).1
      exact ih2 i _ e (Array.getElem?_eq_getElem (by omega)) hi he
  | pure v d h =>
    intro hh
    induction h with
    | clo fn xs ys cs ds hx h1 hy h2 ih1 ih2 =>
      simp only [hasX, Bool.or_eq_true] at hh
      rcases hh with hh | hh
      · obtain ⟨i, e, hi, he⟩ := hasXL_get hh
        have hlt : i < cs.length := (List.getElem?_eq_some_iff.1 hi).1
        exact ih1 i _ e (Array.getElem?_eq_getElem (by omega)) hi he
      · obtain ⟨i, e, hi, he⟩ := hasXL_get hh
        have hlt : i < ds.length := (List.getElem?_eq_some_iff.1 hi).1
        exact ih2 i _ e (Array.getElem?_eq_getElem (by omega)) hi he
    | _ => simp [hasX] at hh
  | osd a n c b' off len hb => intro hh; simp only [hasX, beq_iff_eq] at hh; subst hh; exact (hnd hb).elim
  | ose a b' off hb => intro hh; simp only [hasX, beq_iff_eq] at hh; subst hh; exact .inl hb
  | osa a cap b' off len g o k sz hb hl hm => intro hh; simp only [hasX, beq_iff_eq] at hh; subst hh; exact .inr ⟨g, o, k, sz, hb⟩
  | opd a b' row off hb => intro hh; simp only [hasX, beq_iff_eq] at hh; subst hh; exact (hnd hb).elim
  | opa b' row off g o k sz hb => intro hh; simp only [hasX, beq_iff_eq] at hh; subst hh; exact .inr ⟨g, o, k, sz, hb⟩
  | _ => intro hh; simp [hasX] at hh

/-- Block b is forgotten. -/
def owX (ow : Nat → Ow) (b : Nat) : Nat → Ow := fun c => if c = b then .dead else ow c
theorem extX {b : Nat} : Ext w pu ow w pu (owX ow b) := ⟨fun _ h => ⟨h, rfl⟩, fun c => by unfold owX; split; exact .inr (.inr rfl); exact .inr (.inl rfl)⟩
theorem Mem.dropX (hm : Mem base w pu ow (lkH hp)) (b : Nat) : Mem base w pu (owX ow b) (hpX hp b) := by
  refine ⟨fun c blk hc => ?_, fun c hc => ?_, fun c c' g h1 h2 => ?_, fun c g h1 => ?_, hm.zone⟩
  · unfold hpX at hc
    split at hc
    · cases hc
    · rename_i hne
      have : owX ow b c = ow c := by simp [owX, hne]
      rw [this]
      exact (hm.blk c blk hc).mono extX fun g _ => rfl
  · unfold hpX at hc
    split at hc
    · rename_i e; subst e; exact .inl (by simp [owX])
    · rename_i hne
      have : owX ow b c = ow c := by simp [owX, hne]
      rw [this]
      exact hm.none c hc
  · unfold owX at h1 h2
    split at h1
    · exact h1.elim
    · split at h2
      · exact h2.elim
      · exact hm.injO c c' g h1 h2
  · unfold owX at h1
    split at h1
    · exact h1.elim
    · exact hm.ownO c g h1

/-- What the callee may only read. -/
def zoneX (pu : Nat → Prop) (ow : Nat → Ow) (b : Nat) : Nat → Prop := fun g => pu g ∨ ∃ c a k sz, c ≠ b ∧ ow c = .lies g a k sz
theorem inX_rep {b : Nat} (hm : Mem base w pu ow (lkH hp)) (hnd : ow b ≠ .dead) {v : Value} {d : D} (h : Rep w pu ow v d) : ∀ d', inX hp b d = some d' → Rep w (zoneX pu ow b) (owM (ow b)) v d' := by
  have hpur : ∀ (v : Value) (d d' : D), Rep w pu ow v d → pur (hpX hp b) 64 d = some d' → Rep w (zoneX pu ow b) (owM (ow b)) v d' := fun v d d' h hp' =>
    .pure _ _ (pur_ok (hm.dropX b) (fun g hg => .inl hg) 64 v d d' (h.mono extX) (.inr fun c g o k sz hc => by
      unfold owX at hc
      split at hc
      · cases hc
      · rename_i hne; exact .inr ⟨c, o, k, sz, hne, hc⟩) hp')
  induction h with
  | clo fn xs ys cs ds hx h1 hy h2 ih1 ih2 =>
    intro d' hd
    simp only [inX] at hd
    split at hd
    · rename_i cs' ds' e1 e2
      injection hd with hd; subst hd
      obtain ⟨l1, g1⟩ := inXL_get e1
      obtain ⟨l2, g2⟩ := inXL_get e2
      refine .clo fn xs ys cs' ds' (by omega) (fun i v e hv he => ?_) (by omega) fun i v e hv he => ?_
      · obtain ⟨e0, he0, hi0⟩ := g1 i e he
        exact ih1 i v e0 hv he0 e hi0
      · obtain ⟨e0, he0, hi0⟩ := g2 i e he
        exact ih2 i v e0 hv he0 e hi0
    · cases hd
  | pure v d h =>
    induction h with
    | clo fn xs ys cs ds hx h1 hy h2 ih1 ih2 =>
      intro d' hd
      simp only [inX] at hd
      split at hd
      · rename_i cs' ds' e1 e2
        injection hd with hd; subst hd
        obtain ⟨l1, g1⟩ := inXL_get e1
        obtain ⟨l2, g2⟩ := inXL_get e2
        refine .clo fn xs ys cs' ds' (by omega) (fun i v e hv he => ?_) (by omega) fun i v e hv he => ?_
        · obtain ⟨e0, he0, hi0⟩ := g1 i e he
          exact ih1 i v e0 hv he0 e hi0
        · obtain ⟨e0, he0, hi0⟩ := g2 i e he
          exact ih2 i v e0 hv he0 e hi0
      · cases hd
    | _ => intro d' hd; refine hpur _ _ d' (.pure _ _ ?_) (by simpa only [inX] using hd); first | (constructor; done) | (constructor <;> assumption)
  | osd a n c b' off len hb =>
    intro d' hd
    simp only [inX] at hd
    split at hd
    · rename_i e; subst e; exact (hnd hb).elim
    · exact hpur _ _ _ (.osd a n c b' off len hb) hd
  | ose a b' off hb =>
    intro d' hd
    simp only [inX] at hd
    split at hd
    · rename_i e; subst e
      injection hd with hd; subst hd
      exact .ose a 0 off (by simpa [owM] using hb)
    · exact hpur _ _ _ (.ose a b' off hb) hd
  | osa a cap b' off len g o k sz hb hl hm' =>
    intro d' hd
    simp only [inX] at hd
    split at hd
    · rename_i e; subst e
      injection hd with hd; subst hd
      exact .osa a cap 0 off len g o k sz (by simpa [owM] using hb) hl hm'
    · exact hpur _ _ _ (.osa a cap b' off len g o k sz hb hl hm') hd
  | opd a b' row off hb =>
    intro d' hd
    simp only [inX] at hd
    split at hd
    · rename_i e; subst e; exact (hnd hb).elim
    · exact hpur _ _ _ (.opd a b' row off hb) hd
  | opa b' row off g o k sz hb =>
    intro d' hd
    simp only [inX] at hd
    split at hd
    · rename_i e; subst e
      injection hd with hd; subst hd
      exact .opa 0 row off g o k sz (by simpa [owM] using hb)
    · exact hpur _ _ _ (.opa b' row off g o k sz hb) hd
  | agg vs cs hl h _ => intro d' hd; exact hpur _ _ d' (.agg vs cs hl h) (by simpa only [inX] using hd)
  | tup vs cs hl h _ => intro d' hd; exact hpur _ _ d' (.tup vs cs hl h) (by simpa only [inX] using hd)
  | iface t v d h _ => intro d' hd; exact hpur _ _ d' (.iface t v d h) (by simpa only [inX] using hd)
  | nilsl => intro d' hd; exact hpur _ _ d' .nilsl (by simpa only [inX] using hd)
  | omd r b' hb => intro d' hd; exact hpur _ _ d' (.omd r b' hb) (by simpa only [inX] using hd)
  | oma b' g hb => intro d' hd; exact hpur _ _ d' (.oma b' g hb) (by simpa only [inX] using hd)

theorem evCallX_ok {o : Oper} {id : Nat} {st : St} {a : Act} {K : X → St → Prop} {N : Act → World → Prop} {R : Exit → Act → World → Prop}
    (hi : InvI w0 S id st a w) (h : evCallX P o.op o.dst st K) (hN : ∀ st' a' w', K .normal st' → InvI w0 S (id + 32) st' a' w' → N a' w') : o.wp P a w N R := by
  obtain ⟨pu, ow, hm, he, hb, hz, hid, hs, hd⟩ := hi
  unfold evCallX at h
  split at h
  · rename_i op f args ts ho
    split at h
    · rename_i g xs ys hfd
      obtain ⟨b, blk, args', r, blk', hlk, hsc, hin, hos, hcon, hst⟩ := h
      have hf := he.eval f
      rw [hfd] at hf
      obtain ⟨vx, vy, hfv, hlx, hrx, hly, hry⟩ := hf.clo_inv
      unfold Oper.wp
      rw [run_callF hcon.1 ho hfv, Oper.upon_enter]
      have hargs : ∀ (i : Nat) (v : Value) (d : D), (vx ++ args.map a.eval ++ vy)[i]? = some v → (xs ++ args.toList.map (evalD st.env) ++ ys)[i]? = some d → Rep w pu ow v d := by
        intro i v d h1 h2
        rw [Array.getElem?_append, Array.getElem?_append] at h1
        rw [List.getElem?_append, List.getElem?_append] at h2
        simp only [Array.size_append, Array.size_map, List.length_append, List.length_map, Array.length_toList, hlx] at h1 h2
        split at h1
        · rename_i hlt
          rw [if_pos hlt] at h2
          split at h1
          · rename_i hlt2
            rw [if_pos hlt2] at h2
            exact hrx i v d h1 h2
          · rename_i hlt2
            rw [if_neg hlt2] at h2
            rw [Array.getElem?_map] at h1
            rw [List.getElem?_map, Array.getElem?_toList] at h2
            obtain ⟨x, hx, rfl⟩ := Option.map_eq_some_iff.1 h1
            rw [hx] at h2
            injection h2 with h2; subst h2
            exact he.eval x
        · rename_i hlt
          rw [if_neg hlt] at h2
          exact hry _ v d h1 h2
      have hlen : (vx ++ args.map a.eval ++ vy).size = (xs ++ args.toList.map (evalD st.env) ++ ys).length := by simp [hlx, hly]
      generalize vx ++ args.map a.eval ++ vy = vs at hargs hlen
      generalize xs ++ args.toList.map (evalD st.env) ++ ys = ds at hargs hlen hin hos
      have hblk := hm.blk b blk hlk
      have hnd : ow b ≠ .dead := fun h => by rw [h] at hblk; exact hblk.2
      have howb : ow b = .empty ∨ ∃ g a k sz, ow b = .lies g a k sz ∧ ¬ zoneX pu ow b g := by
        obtain ⟨i, e, hi, he⟩ := hasXL_get hos
        have hv := hargs i _ _ (Array.getElem?_eq_getElem (by rw [hlen]; exact (List.getElem?_eq_some_iff.1 hi).1)) hi
        rcases hasX_ow hnd hv he with h | ⟨g, o, k, sz, h⟩
        · exact .inl h
        · refine .inr ⟨g, o, k, sz, h, fun hz => ?_⟩
          rcases hz with hz | ⟨c, o', k', sz', hne, hc⟩
          · exact (hm.own b g o k sz h).2 hz
          · exact hne (hm.injO c b g (Ow.on_lies hc) (Ow.on_lies h))
      obtain ⟨h1, h2⟩ := inXL_get hin
      have hbk : BlkOK w (zoneX pu ow b) (owM (ow b)) (ow b) blk := hblk.rezone hsc
      have hzone : ∀ g, zoneX pu ow b g → g < w.heap.size := fun g hg => by
        rcases hg with hg | ⟨c, o', k', sz', _, hc⟩
        · exact hm.zone g hg
        · exact hm.at_lt hc
      refine (hcon.2.2.2 (zoneX pu ow b) w vs (ow b) hzone howb hbk (by omega) fun i v d hv hd => ?_).mono fun e w' ⟨⟨hbw, hh⟩, v, hev, hk', hrep⟩ => ?_
      · obtain ⟨d0, hd0, hi0⟩ := h2 i d hd
        exact inX_rep hm hnd (hargs i v d0 hv hd0) d hi0
      · subst hev
        obtain ⟨m1, m2, m3⟩ := hm.inplace hb.size hlk rfl hbw hh hk' hcon.2.1
        exact hN _ _ _ hst.2 ⟨pu, ow, m1, (he.mono m2).put (by rw [hs]; exact hst.1) (outR_rep rfl hrep hcon.2.2.1), hb.trans m3, hz, fun c hc => hid c (by omega), by rw [put_size]; exact hs, by rw [put_defers]; exact hd.1, hd.2.step m2 fun _ => .inr rfl⟩
    · exact h.elim
  · exact h.elim

theorem evOpsM_ok {all : List Oper} {K : X → St → Prop} : ∀ (l : List Oper) (id : Nat) (st : St) (a : Act) (w : World), (S.free ∨ ∀ o ∈ l, noApp o.op = true) → InvI w0 S id st a w → evOpsM P all l id st K → wpList P all.toArray (Post w0 S K) l a w
  | [], id, st, a, w, _, hi, h => ⟨_, h, hi⟩
  | o :: rest, id, st, a, w, hNA, hi, h => by
    have hNA1 : S.free ∨ noApp o.op = true := hNA.imp (fun h => h) fun h => h o (by simp)
    have hNA2 : S.free ∨ ∀ o ∈ rest, noApp o.op = true := hNA.imp (fun h => h) fun h o ho => h o (by simp [ho])
    have hrun : ∀ (hi : InvI w0 S id st a w), evOp P o.op id o.dst st (fun x st' => match x with | .normal => evOpsM P all rest (id + 32) st' K | x => K x st') → o.wp P a w (wpList P all.toArray (Post w0 S K) rest) (Post w0 S K) := fun hi hr =>
      evOp_ok hNA1 hi hr (fun st' a' w' hK hi' => evOpsM_ok rest _ st' a' w' hNA2 hi' hK) fun d chain w' hK hp => ⟨d, ⟨st, hK⟩, hi.defers, hp⟩
    unfold evOpsM at h
    simp only at h
    unfold wpList
    rcases h with h | ⟨hg, h⟩
    · cases hg : o.guard with
      | none =>
        rw [hg] at h
        rw [if_pos (by simp [Region.wanted, hg])]
        exact .inl (hrun hi h)
      | some jw =>
        obtain ⟨j, want⟩ := jw
        rw [hg] at h
        simp only at h
        obtain ⟨pu, ow, he⟩ := hi.env
        split at h
        · rename_i b hgd
          have hy := guard_ok he hgd
          by_cases hb : b = want
          · rw [if_pos (by simp [Region.wanted, hg, hy, hb])]
            exact .inl (hrun hi (h.1 hb))
          · have hb' : b = !want := by cases b <;> cases want <;> simp_all
            rw [if_neg (by simp [Region.wanted, hg, hy, hb])]
            obtain ⟨h1, h2⟩ := h.2 hb'
            exact evOpsM_ok rest _ _ _ _ hNA2 (hi.skip h1) h2
        · rename_i hgd
          have hy := guard_ok he hgd
          rw [if_neg (by simp [Region.wanted, hg, hy])]
          exact evOpsM_ok rest _ _ _ _ hNA2 (hi.skip h.1) h.2
        · exact h.elim
    · rw [if_pos (by simp [Region.wanted, hg])]
      rcases h with h | h | h | h | h
      · exact .inl (evCallM_ok hi h fun st' a' w' hK hi' => evOpsM_ok rest _ st' a' w' hNA2 hi' hK)
      · exact .inl (evClear_ok hi h fun st' a' w' hK hi' => evOpsM_ok rest _ st' a' w' hNA2 hi' hK)
      · exact .inl (evMap_ok hi h fun st' a' w' hK hi' => evOpsM_ok rest _ st' a' w' hNA2 hi' hK)
      · exact .inl (evCallX_ok hi h fun st' a' w' hK hi' => evOpsM_ok rest _ st' a' w' hNA2 hi' hK)
      · exact .inl (evCopy_ok hi h fun st' a' w' hK hi' => evOpsM_ok rest _ st' a' w' hNA2 hi' hK)

end
end Go.Pv

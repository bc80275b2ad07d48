import Derived.Test.YtbojgmhpmcnfjaaVAC
import GoSem.Core.Float
import Derived.Shelf.SlSortCmp.NoneTotal
/- Part of the proofs over Ytbojgmhpmcnfjaa: PwT, PwI, PwU, PvSq, PwV, PxA, PwW, PxC, PxD, PxE. -/
set_option linter.unusedVariables false
set_option linter.unusedSimpArgs false
set_option linter.unnecessarySimpa false
/- Lists of three and four structs; parts of own lists; calls that write into an own list. -/
namespace Go.Pv
class TArrE (P : Program) (t : TypeId) (len : outParam Nat) (e : outParam TypeId) (k : outParam Nat) : Prop where
  u : P.underlying t = some (.array len e)
  c : P.cellsOf e = k
  p : 0 < k
section
variable {P : Program} {E : St → St → Prop} {K : X → St → Prop} {env : Env} {hp : Hp} {nx n id : Nat} {s : Tmp} {x y u v f : Operand} {t : TypeId}

/-- An element of an array that is a value. -/
theorem go_index_agg {len k : Nat} {e : TypeId} {sh' : Sh} {cs : List D} {ik : IntKind} {i : Int} {d : D} [ha : TArrE P t len e k] [hs : TSh P e sh'] (h : evalD env x = .agg cs) (h2 : evalD env y = .int ik i) (hd : okDst n (some s) = true) (hi : 0 ≤ i ∧ i < len)
    (hc : fromCells sh' (cs.drop (i.toNat * k)) = some d) (hk : K .normal ⟨(s, d) :: env, hp, nx, n⟩) : evOp P (.index t x y) id (some s) ⟨env, hp, nx, n⟩ K := by
  rw [evOp_index]
  refine ⟨d, ?_, hd, hk⟩
  rw [h, h2]
  simp only [indexD, ha.u]
  rw [if_pos ⟨hi.1, hi.2, by rw [ha.c]; exact ha.p⟩, ha.c, hs.h]
  exact hc

/-- The first elements of a list of one's own. -/
theorem go_take_os {e : TypeId} {k b off len : Nat} {blk : Blk} {ik : IntKind} {i : Int} [hs : TSlice P t e k] (h : evalD env x = .os b off len) (h2 : evalD env y = .int ik i) (hb : lkH hp b = some blk) (hkk : blk.k = k) (hd : okDst n (some s) = true)
    (hi : 0 ≤ i ∧ i ≤ len) (hk : K .normal ⟨(s, .os b off i.toNat) :: env, hp, nx, n⟩) : evOp P (.slice t x none (some y) none) id (some s) ⟨env, hp, nx, n⟩ K := by
  rw [evOp_slice]
  refine ⟨.os b off i.toNat, ?_, hd, hk⟩
  simp only [Option.map_none, Option.map_some, h, h2, sliceD, hs.u, boundD, hb]
  rw [if_pos hi.1]
  simp only []
  rw [if_pos]
  · simp
  · exact ⟨by omega, by omega, by rw [hs.c]; exact hs.p, by rw [hkk, hs.c]⟩

/-- A region that has a call in it that writes into an own list. -/
theorem go_regionM {i : Nat} {l : List Oper} (h : evOpsM P l l nx ⟨env, hp, nx, n⟩ K) : evG E P (.region i l.toArray false) K ⟨env, hp, nx, n⟩ := .inr h

def kOpsM (P : Program) (all rest : List Oper) (id : Nat) (K : X → St → Prop) : X → St → Prop
  | .normal, st => evOpsM P all rest id st K
  | x, st => K x st
theorem goM_op {all rest : List Oper} {dst : Option Tmp} {op : Op} {ty : TypeId} {pos : String} {af : Array Edge} (h : evOp P op id dst ⟨env, hp, nx, n⟩ (kOpsM P all rest (id + 32) K)) :
    evOpsM P all ({ dst := dst, op := op, type := ty, pos := pos, after := af, guard := none } :: rest) id ⟨env, hp, nx, n⟩ K := .inl (evOp_mono (fun x st hx => by cases x <;> exact hx) h)
theorem goM_next {all rest : List Oper} (h : evOpsM P all rest id ⟨env, hp, nx, n⟩ K) : kOpsM P all rest id K .normal ⟨env, hp, nx, n⟩ := h
theorem goM_nil {all : List Oper} (h : K .normal ⟨env, hp, id, n⟩) : evOpsM P all [] id ⟨env, hp, nx, n⟩ K := h
theorem goM_call {all rest : List Oper} {dst : Option Tmp} {ty : TypeId} {pos : String} {af : Array Edge} {args : List Operand} {ts : Array TypeId} {g : FuncId} {ds args' : List D} {b : Nat} {blk blk' : Blk} {r r' : D} (ha : args.map (evalD env) = ds)
    (hb : lkH hp b = some blk) (hs : scalR blk.rows = true) (hin : inL b ds = some args') (hos : hasOs b ds = true)
    (hc : ContractM P g args' blk r blk') (hr : outR b r = r') (hd : okDst n dst = true) (h : evOpsM P all rest (id + 32) ⟨putE dst r' env, updH b blk' hp, nx, n⟩ K) :
    evOpsM P all ({ dst := dst, op := .call { callee := .value (.func g), args := args.toArray, argTypes := ts }, type := ty, pos := pos, after := af, guard := none } :: rest) id ⟨env, hp, nx, n⟩ K := by
  subst ha hr
  refine .inr ⟨rfl, .inl ?_⟩
  exact ⟨b, blk, args', r, blk', hb, hs, by simpa using hin, by simpa using hos, hc, hd, h⟩
/-- 'clear' of a part of an own list. -/
theorem goM_clear {all rest : List Oper} {dst : Option Tmp} {ty : TypeId} {pos : String} {af : Array Edge} {x : Operand} {t e : TypeId} {k b off len k' : Nat} {rows : List (List D)} {fl : Bool} [hs : TSlice P t e k] (ha : evalD env x = .os b off len)
    (hb : lkH hp b = some ⟨k', fl, rows⟩) (hc : clrOK P e k' = true) (hsr : scalR rows = true) (hle : off + len ≤ rows.length) (hd : okDst n dst = true) (h : evOpsM P all rest (id + 32) ⟨putE dst (.tup []) env, updH b ⟨k', fl, rows.take off⟩ hp, nx, n⟩ K) :
    evOpsM P all ({ dst := dst, op := .call { callee := .builtin .clear, args := #[x], argTypes := #[t] }, type := ty, pos := pos, after := af, guard := none } :: rest) id ⟨env, hp, nx, n⟩ K :=
  .inr ⟨rfl, .inr (.inl ⟨x, t, e, b, off, len, ⟨k', fl, rows⟩, rfl, rfl, hs.u, hc, ha, hb, hsr, hle, hd, h⟩)⟩
/-- Maps of one kind of keys. -/
class TMap (P : Program) (t : TypeId) (td : outParam TypeDesc) (z : outParam D) : Prop where
  h : ∃ kt et, P.underlying t = some (.map kt et) ∧ P.underlying kt = some td ∧ ((P.info? et).bind (·.zero)).map ofV = some z
end
end Go.Pv

/- Calls worked out: an evaluation that runs. -/
namespace Go.Pv

abbrev Calling := FuncId → List D → Option Outc

def stepR (st : St) (dst : Option Tmp) (d : D) (env : Env) (hp : Hp) : Option (X × St) :=
  if okDst st.n dst = true then some (.normal, { st with env := putE dst d env, hp := hp }) else none

def runCall (call : Calling) (fd : D) (args : List D) (id : Nat) (dst : Option Tmp) (st : St) : Option (X × St) :=
  match fd with
  | .clo (.func f) xs ys =>
    match purL (lkH st.hp) 64 (xs ++ args ++ ys) with
    | some args' =>
      match call f args' with
      | some (.ret r) => if (pureL (xs ++ args ++ ys) = true ∨ refless r = true) ∧ widR r ≤ 32 then stepR st dst (adopt id r).1 st.env ((adopt id r).2 ++ st.hp) else none
      | some (.pan d) => if pureL (xs ++ args ++ ys) = true ∨ panOK d = true then some (.pan d, st) else none
      | none => none
    | none => none
  | _ => none

def runOp (P : Program) (call : Calling) (o : Op) (id : Nat) (dst : Option Tmp) (st : St) : Option (X × St) :=
  match o with
  | .store t a x =>
    match storeD P (lkH st.hp) t (evalD st.env a) (evalD st.env x) with
    | some (b, blk) => stepR st dst .skip st.env (updH b blk st.hp)
    | none => none
  | .call { callee := .value f, args := args, .. } => runCall call (evalD st.env f) (args.toList.map (evalD st.env)) id dst st
  | .call { callee := .builtin .append, args := args, argTypes := ts } =>
    match args.toList, ts.toList with
    | [s, x], [t, t'] =>
      if t = t' then
        match appendD P (lkH st.hp) t (evalD st.env s) (evalD st.env x) with
        | some (none, blk) => stepR st dst (.os id 0 blk.rows.length) st.env ((id, blk) :: st.hp)
        | some (some b, blk) => stepR st dst (.os b 0 blk.rows.length) (purgeE b st.env) ((b, blk) :: purgeH b st.hp)
        | none => none
      else none
    | _, _ => none
  | .build t parts =>
    match buildD P t (parts.toList.map fun (i, x) => (i, evalD st.env x)) with
    | some d => stepR st dst d st.env st.hp
    | none => none
  | o =>
    match op0 P (evalD st.env) (lkH st.hp) o with
    | some d => stepR st dst d st.env st.hp
    | none =>
      match op1 P (evalD st.env) o with
      | some (ptr, blk) => stepR st dst (outD id ptr blk) st.env ((id, blk) :: st.hp)
      | none =>
        match nilB P (evalD st.env) (lkH st.hp) o with
        | some [b] => stepR st dst (.bool b) st.env st.hp
        | _ => none

def runOps (P : Program) (call : Calling) (all : List Oper) : List Oper → Nat → St → Option (X × St)
  | [], id, st => some (.normal, { st with nx := id })
  | o :: rest, id, st =>
    match (match o.guard with
      | none => some true
      | some (j, want) =>
        match guardD all st.env j with
        | some (some b) => some (b == want)
        | some none => some false
        | none => none) with
    | some true =>
      match runOp P call o.op id o.dst st with
      | some (.normal, st') => runOps P call all rest (id + 32) st'
      | r => r
    | some false => if okDst st.n o.dst = true then runOps P call all rest (id + 32) (st.put o.dst .skip) else none
    | none => none

abbrev CallingM := FuncId → List D → Blk → Option (D × Blk)

def firstOs : List D → Option Nat
  | [] => none
  | .os b _ _ :: _ => some b
  | _ :: ds => firstOs ds

def runCallM (callM : CallingM) (o : Op) (dst : Option Tmp) (st : St) : Option (X × St) :=
  match o with
  | .call { callee := .value f, args := args, .. } =>
    match evalD st.env f with
    | .clo (.func g) xs ys =>
      match firstOs (xs ++ args.toList.map (evalD st.env) ++ ys) with
      | some b =>
        match lkH st.hp b with
        | some blk =>
          match inL b (xs ++ args.toList.map (evalD st.env) ++ ys) with
          | some args' =>
            match callM g args' blk with
            | some (r, blk') => if scalR blk.rows = true then stepR st dst (outR b r) st.env (updH b blk' st.hp) else none
            | none => none
          | none => none
        | none => none
      | none => none
    | _ => none
  | _ => none

def runOpsM (P : Program) (call : Calling) (callM : CallingM) (all : List Oper) : List Oper → Nat → St → Option (X × St)
  | [], id, st => some (.normal, { st with nx := id })
  | o :: rest, id, st =>
    match (match o.guard with
      | none => some true
      | some (j, want) =>
        match guardD all st.env j with
        | some (some b) => some (b == want)
        | some none => some false
        | none => none) with
    | some true =>
      match runOp P call o.op id o.dst st with
      | some (.normal, st') => runOpsM P call callM all rest (id + 32) st'
      | some r => some r
      | none =>
        if o.guard.isNone = true then
          match runCallM callM o.op o.dst st with
          | some (.normal, st') => runOpsM P call callM all rest (id + 32) st'
          | _ => none
        else none
    | some false => if okDst st.n o.dst = true then runOpsM P call callM all rest (id + 32) (st.put o.dst .skip) else none
    | none => none

/-- The greatest m up to the given one that serves. -/
def searchM (l : List Oper) : Nat → Option Nat
  | 0 => bif chkDraw l 0 then some 0 else none
  | m + 1 => bif chkDraw l (m + 1) then some (m + 1) else searchM l m

def zsAt (ms : List Nat) (k : Nat) : List Nat := (List.range k).filter fun j => !(ms.getD k 0).testBit j
def zsOf (l : List Oper) (m : Nat) : List (List Nat) := (List.range (l.length - m)).map fun i => zsAt (masks l []) (m + i)
def searchL (l : List Oper) : Nat → Option Nat
  | 0 => bif chkDrawL l 0 (zsOf l 0) then some 0 else none
  | m + 1 => bif chkDrawL l (m + 1) (zsOf l (m + 1)) then some (m + 1) else searchL l m

def eq1 : D → D → Bool
  | .int k a, .int k' b => decide (k = k') && decide (a = b)
  | .bool a, .bool b => a == b
  | .str a, .str b => decide (a = b)
  | .os b o l, .os b' o' l' => b == b' && o == o' && l == l'
  | .op b o l, .op b' o' l' => b == b' && o == o' && l == l'
  | .nilsl, .nilsl => true
  | _, _ => false

/-- An operation's value that needs no new memory. -/
def val0 (P : Program) (call : Calling) (o : Op) (st : St) : Option D :=
  match o with
  | .store .. => none
  | .call { callee := .value f, args := args, .. } =>
    match evalD st.env f with
    | .clo (.func g) xs ys =>
      match purL (lkH st.hp) 64 (xs ++ args.toList.map (evalD st.env) ++ ys) with
      | some args' =>
        match call g args' with
        | some (.ret r) => if scal1 r = true then some r else none
        | _ => none
      | none => none
    | _ => none
  | .call { callee := .builtin .append, .. } => none
  | .build .. => none
  | o => op0 P (evalD st.env) (lkH st.hp) o

def againR (P : Program) (call : Calling) (all : List Oper) (st : St) (j : Nat) : Bool :=
  match all[j]? with
  | some o =>
    match o.dst, val0 P call o.op st with
    | some s, some d => okDst st.n (some s) && eq1 (lkE st.env s) d
    | _, _ => false
  | none => false

def runLine (P : Program) (call : Calling) (all : List Oper) (m : Nat) : List Oper → List (List Nat) → Nat → St → Option (X × St)
  | [], [], id, st => some (.normal, { st with nx := id })
  | o :: rest, z :: zs, id, st =>
    match runOp P call o.op id o.dst st with
    | some (.normal, st') => if z.all (againR P call all st') = true then runLine P call all m rest zs (id + 32 + 32 * m) st' else none
    | _ => none
  | _, _, _, _ => none

def runDraw (P : Program) (call : Calling) (l : List Oper) (st : St) : Option (X × St) :=
  if (st.hp.all fun x => decide (x.1 < st.nx)) = true then
    match searchM l (preA l).length with
    | some m =>
      if chkDraw l m = true then
        match runOps P call l (l.take m) st.nx st with
        | some (.normal, st') => runOps P call l (l.drop m) st'.nx st'
        | _ => none
      else none
    | none =>
      match searchL l (preA l).length with
      | some m =>
        if chkDrawL l m (zsOf l m) = true then
          match runOps P call l (l.take m) st.nx st with
          | some (.normal, st') => runLine P call l m (l.drop m) (zsOf l m) st'.nx st'
          | _ => none
        else none
      | none => none
  else none

def hasN : List Nat → Nat → Bool
  | [], _ => false
  | x :: l, n => bif x == n then true else hasN l n

/-- The last value of each slot. -/
def cleanE : List Nat → Env → Env
  | _, [] => []
  | seen, (s, d) :: e => bif hasN seen s then cleanE seen e else (s, d) :: cleanE (s :: seen) e

def clean (st : St) : St := { st with env := cleanE [] st.env }

def iter : Nat → (St → Option (X × St)) → St → Option (X × St)
  | 0, _, _ => none
  | n + 1, f, st =>
    match f (clean st) with
    | some (.normal, st') => iter n f st'
    | r => r

def runC (P : Program) (call : Calling) (callM : CallingM) (fuel : Nat) : Code → St → Option (X × St)
  | .skip, st => some (.normal, st)
  | .label _, st => some (.normal, st)
  | .region _ ops false, st => runOpsM P call callM ops.toList ops.toList st.nx st
  | .region _ ops true, st => runDraw P call ops.toList st
  | .seq a b, st =>
    match runC P call callM fuel a st with
    | some (.normal, st') => runC P call callM fuel b st'
    | r => r
  | .cond c a b, st =>
    match evalD st.env c with
    | .bool true => runC P call callM fuel a st
    | .bool false => runC P call callM fuel b st
    | _ => none
  | .block id c, st =>
    match runC P call callM fuel c st with
    | some (.exit id', st') => if id' = id then some (.normal, st') else some (.exit id', st')
    | r => r
  | .loop c, st => iter fuel (runC P call callM fuel c) st
  | .exit id, st => some (.exit id, st)
  | .ret, st => some (.ret, st)
  | .scope c, st => runC P call callM fuel c st
  | _, _ => none

def srcD (hp : Nat → Option Blk) (used : List Nat) : D → Src
  | .nilsl => .nil
  | .os b off len =>
    match hp b with
    | some blk => if off = 0 ∧ len = blk.rows.length ∧ hasN used b = false then .blk b else .pure
    | none => .pure
  | _ => .pure

def srcsD (hp : Nat → Option Blk) : List Nat → List D → List Src
  | _, [] => []
  | used, d :: ds =>
    match srcD hp used d with
    | .blk b => .blk b :: srcsD hp (b :: used) ds
    | s => s :: srcsD hp used ds

def finR (hp hpX : Nat → Option Blk) : List Src → List D → Option (List D)
  | [], [] => some []
  | s :: ss, d :: ds =>
    match (match s with
      | .pure => pur hpX 64 d
      | .nil => (match d with | .nilsl => some (.fr 0 []) | _ => none)
      | .blk b =>
        match hp b with
        | some blk => (match d with
          | .os b' 0 len => if b' = b ∧ len = blk.rows.length then
              (if blk.flat = true then some (.fr blk.k blk.rows) else match purR hpX 64 blk.rows with
                | some rows => if rows.length = len then some (.fr blk.k rows) else none
                | none => none)
            else none
          | _ => none)
        | none => none) with
    | some r => (finR hp hpX ss ds).map (r :: ·)
    | none => none
  | _, _ => none

def resAll (P : Program) (st : St) : List ResultVar → Option (List D)
  | [] => some []
  | rv :: l =>
    match resD P st rv with
    | some d => (resAll P st l).map (d :: ·)
    | none => none

/-- The cells, put back into the structs. -/
def regroup : List D → List D → List D
  | [], _ => []
  | .agg cs :: ds, rc => .agg (rc.take cs.length) :: regroup ds (rc.drop cs.length)
  | _ :: ds, r :: rc => r :: regroup ds rc
  | _ :: _, [] => []

def finD (P : Program) (rv : List ResultVar) (st : St) : Option D :=
  match resAll P st rv with
  | some ds =>
    let fc := ds.flatMap cellsD
    let ss := srcsD (lkH st.hp) [] fc
    match finR (lkH st.hp) (without (frsOf ss) (lkH st.hp)) ss fc with
    | some rc =>
      let rs := regroup ds rc
      if (frsOf ss).Nodup ∧ (rs.length = 1 → rs.all notTup = true) ∧ rc.all isCell = true then some (tupOf rs) else none
    | none => none
  | none => none

def resM (P : Program) (rv : List ResultVar) (st : St) : Option (D × Blk) :=
  match resAll P st rv, lkH st.hp 0 with
  | some ds, some blk => if scalR blk.rows = true ∧ okOut (tupOf ds) = true then some (tupOf ds, blk) else none
  | _, _ => none

def run1 (P : Program) (fuel : Nat) (call : Calling) (callM : CallingM) : Calling := fun f ds =>
    match P.funcs[f]? with
    | some fn =>
      match fn.body with
      | some c =>
        if (fn.name == "runtime.NumGoroutine") = false ∧ ds.length ≤ fn.ntmps then
          match runC P call callM fuel c ⟨argsE 0 ds, [], 0, fn.ntmps⟩ with
          | some (.normal, st) => (finD P fn.results.toList st).map .ret
          | some (.ret, st) => (finD P fn.results.toList st).map .ret
          | some (.pan d, _) => some (.pan d)
          | _ => none
        else none
      | none => none
    | none => none

def run1M (P : Program) (fuel : Nat) (call : Calling) (callM : CallingM) : CallingM := fun f ds blk =>
    match P.funcs[f]? with
    | some fn =>
      match fn.body with
      | some c =>
        if (fn.name == "runtime.NumGoroutine") = false ∧ ds.length ≤ fn.ntmps ∧ noAppC c = true then
          match runC P call callM fuel c ⟨argsE 0 ds, [(0, blk)], 1, fn.ntmps⟩ with
          | some (.normal, st) => resM P fn.results.toList st
          | some (.ret, st) => resM P fn.results.toList st
          | _ => none
        else none
      | none => none
    | none => none

/-- Calls worked out. -/
def runP (P : Program) (fuel : Nat) : Nat → Calling × CallingM
  | 0 => (fun _ _ => none, fun _ _ _ => none)
  | k + 1 => (run1 P fuel (runP P fuel k).1 (runP P fuel k).2, run1M P fuel (runP P fuel k).1 (runP P fuel k).2)

def runF (P : Program) (fuel k : Nat) : Calling := (runP P fuel k).1
section
variable {P : Program} {call : Calling} {callM : CallingM}

theorem stepR_ok {st st' : St} {dst : Option Tmp} {d : D} {env : Env} {hp : Hp} {x : X} {K : X → St → Prop} (h : stepR st dst d env hp = some (x, st')) (hK : K x st') : stepK st dst d env hp K := by
  unfold stepR at h
  split at h
  · rename_i hd
    simp only [Option.some.injEq, Prod.mk.injEq] at h
    obtain ⟨rfl, rfl⟩ := h
    exact ⟨hd, hK⟩
  · cases h

theorem runCall_ok (hcall : ∀ f ds out, call f ds = some out → Contract P f ds out) {fd : D} {args : List D} {id : Nat} {dst : Option Tmp} {st st' : St} {x : X} {K : X → St → Prop}
    (h : runCall call fd args id dst st = some (x, st')) (hK : K x st') : evCall P fd args id dst st K := by
  unfold runCall at h
  split at h
  · rename_i f xs ys
    split at h
    · rename_i args' hp
      split at h
      · rename_i r hc
        split at h
        · rename_i hr
          exact ⟨args', .ret r, hp, hcall _ _ _ hc, hr.1, hr.2, stepR_ok h hK⟩
        · cases h
      · rename_i d hc
        split at h
        · rename_i hr
          simp only [Option.some.injEq, Prod.mk.injEq] at h
          obtain ⟨rfl, rfl⟩ := h
          exact ⟨args', .pan d, hp, hcall _ _ _ hc, hr, hK⟩
        · cases h
      · cases h
    · cases h
  · cases h

theorem runOp_ok (hcall : ∀ f ds out, call f ds = some out → Contract P f ds out) {o : Op} {id : Nat} {dst : Option Tmp} {st st' : St} {x : X} {K : X → St → Prop}
    (h : runOp P call o id dst st = some (x, st')) (hK : K x st') : evOp P o id dst st K := by
  unfold runOp at h
  unfold evOp
  split at h
  · split at h
    · rename_i h1
      simp only [h1]
      exact stepR_ok h hK
    · cases h
  · exact runCall_ok hcall h hK
  · split at h
    · rename_i heq1 heq2
      simp only [heq1, heq2]
      split at h
      · rename_i ht
        rw [if_pos ht]
        split at h
        · rename_i h1
          simp only [h1]
          exact stepR_ok h hK
        · rename_i h1
          simp only [h1]
          exact stepR_ok h hK
        · cases h
      · cases h
    · cases h
  · split at h
    · rename_i h1
      simp only [h1]
      exact stepR_ok h hK
    · cases h
  · split at h
    · rename_i h0
      simp only [h0]
      exact stepR_ok h hK
    · rename_i h0
      simp only [h0]
      split at h
      · rename_i h1
        simp only [h1]
        exact stepR_ok h hK
      · rename_i h1
        split at h
        · rename_i b h2
          simp only [h1, h2]
          intro b' hb
          simp only [List.mem_singleton] at hb
          subst hb
          exact stepR_ok h hK
        · cases h

theorem runOps_ok (hcall : ∀ f ds out, call f ds = some out → Contract P f ds out) {all : List Oper} : ∀ (l : List Oper) (id : Nat) (st st' : St) (x : X) (K : X → St → Prop),
    runOps P call all l id st = some (x, st') → K x st' → evOps P all l id st K
  | [], id, st, st', x, K, h, hK => by
    simp only [runOps, Option.some.injEq, Prod.mk.injEq] at h
    obtain ⟨rfl, rfl⟩ := h
    exact hK
  | o :: rest, id, st, st', x, K, h, hK => by
    have hrun : (match runOp P call o.op id o.dst st with
      | some (.normal, st') => runOps P call all rest (id + 32) st'
      | r => r) = some (x, st') → evOp P o.op id o.dst st (fun x st' => match x with
      | .normal => evOps P all rest (id + 32) st' K
      | x => K x st') := fun h => by
      split at h
      · rename_i st1 h1
        exact runOp_ok hcall h1 (K := fun x st' => match x with
          | .normal => evOps P all rest (id + 32) st' K
          | x => K x st') (runOps_ok hcall rest (id + 32) st1 st' x K h hK)
      · rename_i hn
        cases hr : runOp P call o.op id o.dst st with
        | none => rw [hr] at h; cases h
        | some r =>
          rw [hr] at h
          injection h with h
          subst h
          refine runOp_ok hcall hr ?_
          cases x with
          | normal => exact (hn _ hr).elim
          | _ => exact hK
    unfold runOps at h
    unfold evOps
    simp only
    split at h
    · rename_i hg
      split at hg
      · rename_i hgn
        simp only [hgn]
        exact hrun h
      · rename_i j want hgs
        simp only [hgs]
        split at hg
        · rename_i b hgd
          simp only [hgd]
          simp only [Option.some.injEq, beq_iff_eq] at hg
          subst hg
          exact ⟨fun _ => hrun h, fun hb => by cases b <;> cases hb⟩
        · cases hg
        · cases hg
    · rename_i hg
      split at h
      · rename_i hd
        have hrest := runOps_ok hcall rest (id + 32) _ st' x K h hK
        split at hg
        · cases hg
        · rename_i j want hgs
          simp only [hgs]
          split at hg
          · rename_i b hgd
            simp only [hgd]
            simp only [Option.some.injEq, beq_eq_false_iff_ne, ne_eq] at hg
            exact ⟨fun hb => (hg hb).elim, fun _ => ⟨hd, hrest⟩⟩
          · rename_i hgd
            simp only [hgd]
            exact ⟨hd, hrest⟩
          · cases hg
      · cases h
    · cases h

theorem firstOs_has : ∀ {ds : List D} {b : Nat}, firstOs ds = some b → hasOs b ds = true
  | [], b, h => by cases h
  | d :: ds, b, h => by
    cases d with
    | os b' o l =>
      simp only [firstOs, Option.some.injEq] at h
      subst h
      simp [hasOs]
    | _ => exact firstOs_has (ds := ds) h

theorem runCallM_ok (hcallM : ∀ f ds blk r blk', callM f ds blk = some (r, blk') → ContractM P f ds blk r blk') {o : Op} {dst : Option Tmp} {st st' : St} {x : X} {K : X → St → Prop}
    (h : runCallM callM o dst st = some (x, st')) (hK : K x st') : evCallM P o dst st K := by
  unfold runCallM at h
  unfold evCallM
  split at h
  · split at h
    · rename_i g xs ys hfd
      simp only [hfd]
      split at h
      · rename_i b hb
        split at h
        · rename_i blk hl
          split at h
          · rename_i args' hi
            split at h
            · rename_i r blk' hc
              split at h
              · rename_i hs
                refine ⟨b, blk, args', r, blk', hl, hs, hi, firstOs_has hb, hcallM _ _ _ _ _ hc, stepR_ok h hK⟩
              · cases h
            · cases h
          · cases h
        · cases h
      · cases h
    · cases h
  · cases h

theorem runOpsM_ok (hcall : ∀ f ds out, call f ds = some out → Contract P f ds out) (hcallM : ∀ f ds blk r blk', callM f ds blk = some (r, blk') → ContractM P f ds blk r blk') {all : List Oper} : ∀ (l : List Oper) (id : Nat) (st st' : St) (x : X) (K : X → St → Prop),
    runOpsM P call callM all l id st = some (x, st') → K x st' → evOpsM P all l id st K
  | [], id, st, st', x, K, h, hK => by
    simp only [runOpsM, Option.some.injEq, Prod.mk.injEq] at h
    obtain ⟨rfl, rfl⟩ := h
    exact hK
  | o :: rest, id, st, st', x, K, h, hK => by
    unfold runOpsM at h
    unfold evOpsM
    simp only
    split at h
    · rename_i hg
      split at h
      · rename_i st1 h1
        have h2 : evOp P o.op id o.dst st (fun x st' => match x with
          | .normal => evOpsM P all rest (id + 32) st' K
          | x => K x st') := runOp_ok hcall h1 (K := fun x st' => match x with
          | .normal => evOpsM P all rest (id + 32) st' K
          | x => K x st') (runOpsM_ok hcall hcallM rest (id + 32) st1 st' x K h hK)
        refine .inl ?_
        split at hg
        · rename_i hgn; simp only [hgn]; exact h2
        · rename_i j want hgs
          simp only [hgs]
          split at hg
          · rename_i b hgd
            simp only [hgd]
            simp only [Option.some.injEq, beq_iff_eq] at hg
            subst hg
            exact ⟨fun _ => h2, fun hb => by cases b <;> cases hb⟩
          · cases hg
          · cases hg
      · rename_i r hn hr
        injection h with h
        subst h
        have h2 : evOp P o.op id o.dst st (fun x st' => match x with
          | .normal => evOpsM P all rest (id + 32) st' K
          | x => K x st') := runOp_ok hcall hr (by
            cases x with
            | normal => exact (hn _ rfl).elim
            | _ => exact hK)
        refine .inl ?_
        split at hg
        · rename_i hgn; simp only [hgn]; exact h2
        · rename_i j want hgs
          simp only [hgs]
          split at hg
          · rename_i b hgd
            simp only [hgd]
            simp only [Option.some.injEq, beq_iff_eq] at hg
            subst hg
            exact ⟨fun _ => h2, fun hb => by cases b <;> cases hb⟩
          · cases hg
          · cases hg
      · split at h
        · rename_i hgn
          split at h
          · rename_i st1 h1
            exact .inr ⟨Option.isNone_iff_eq_none.1 hgn, .inl (runCallM_ok hcallM h1 (K := fun x st' => match x with
              | .normal => evOpsM P all rest (id + 32) st' K
              | x => K x st') (runOpsM_ok hcall hcallM rest (id + 32) st1 st' x K h hK))⟩
          · cases h
        · cases h
    · rename_i hg
      refine .inl ?_
      split at h
      · rename_i hd
        have hrest := runOpsM_ok hcall hcallM rest (id + 32) _ st' x K h hK
        split at hg
        · cases hg
        · rename_i j want hgs
          simp only [hgs]
          split at hg
          · rename_i b hgd
            simp only [hgd]
            simp only [Option.some.injEq, beq_eq_false_iff_ne, ne_eq] at hg
            exact ⟨fun hb => (hg hb).elim, fun _ => ⟨hd, hrest⟩⟩
          · rename_i hgd
            simp only [hgd]
            exact ⟨hd, hrest⟩
          · cases hg
      · cases h
    · cases h

theorem eq1_ok {a b : D} (h : eq1 a b = true) : a = b := by
  cases a <;> cases b <;> simp only [eq1, Bool.and_eq_true, decide_eq_true_eq, beq_iff_eq] at h <;> first | (cases h; done) | skip
  · obtain ⟨rfl, rfl⟩ := h; rfl
  · subst h; rfl
  · subst h; rfl
  · rfl
  · obtain ⟨⟨rfl, rfl⟩, rfl⟩ := h; rfl
  · obtain ⟨⟨rfl, rfl⟩, rfl⟩ := h; rfl

theorem scal1_refless {d : D} (h : scal1 d = true) : refless d = true := by
  cases d <;> first | (cases h; done) | rfl
theorem scal1_adopt {d : D} {id : Nat} (h : scal1 d = true) : adopt id d = (d, []) := by
  cases d <;> first | (cases h; done) | rfl
theorem scal1_wid {d : D} (h : scal1 d = true) : widR d ≤ 32 := by
  cases d <;> first | (cases h; done) | exact Nat.le_of_ble_eq_true rfl

theorem val0_ok (hcall : ∀ f ds out, call f ds = some out → Contract P f ds out) {o : Op} {st : St} {d : D} {s : Tmp} (h : val0 P call o st = some d) (hd : okDst st.n (some s) = true) {K : X → St → Prop} (hK : K .normal { st with env := (s, d) :: st.env }) (id : Nat) :
    evOp P o id (some s) st K := by
  unfold val0 at h
  unfold evOp
  split at h
  · cases h
  · split at h
    · rename_i g xs ys hf
      split at h
      · rename_i args' hp
        split at h
        · rename_i r hc
          split at h
          · rename_i hr
            injection h with h
            subst h
            show evCall P _ _ id _ st K
            rw [hf]
            refine ⟨args', .ret r, hp, hcall _ _ _ hc, .inr (scal1_refless hr), scal1_wid hr, hd, ?_⟩
            rw [scal1_adopt hr]
            exact hK
          · cases h
        · cases h
      · cases h
    · cases h
  · cases h
  · cases h
  · rename_i h1 h2 h3 h4
    split
    · rename_i t a x; exact (h1 t a x rfl).elim
    · rename_i f args ts; exact (h2 f args ts rfl).elim
    · rename_i args ts; exact (h3 args ts rfl).elim
    · rename_i t parts; exact (h4 t parts rfl).elim
    · simp only [h]
      exact ⟨hd, hK⟩

theorem againR_ok (hcall : ∀ f ds out, call f ds = some out → Contract P f ds out) {all : List Oper} {st : St} {j : Nat} (h : againR P call all st j = true) : again P all st j := by
  unfold againR at h
  unfold again
  split at h
  · rename_i o ho
    rw [ho]
    simp only
    split at h
    · rename_i s d hs hv
      simp only [Bool.and_eq_true] at h
      rw [hs]
      refine fun id => val0_ok hcall hv h.1 ?_ id
      refine ⟨rfl, rfl, rfl, fun t => ?_⟩
      show (if t = s then d else lkE st.env t) = _
      split
      · rename_i ht; rw [ht, eq1_ok h.2]
      · rfl
    · cases h
  · cases h

theorem runLine_ok (hcall : ∀ f ds out, call f ds = some out → Contract P f ds out) {all : List Oper} {m : Nat} : ∀ (l : List Oper) (zs : List (List Nat)) (id : Nat) (st st' : St) (x : X) (K : X → St → Prop),
    runLine P call all m l zs id st = some (x, st') → K x st' → evLine P all m l zs id st K
  | [], [], id, st, st', x, K, h, hK => by
    simp only [runLine, Option.some.injEq, Prod.mk.injEq] at h
    obtain ⟨rfl, rfl⟩ := h
    exact hK
  | [], _ :: _, _, _, _, _, _, h, _ => by cases h
  | _ :: _, [], _, _, _, _, _, h, _ => by cases h
  | o :: rest, z :: zs, id, st, st', x, K, h, hK => by
    simp only [runLine] at h
    simp only [evLine]
    split at h
    · rename_i st1 h1
      split at h
      · rename_i hz
        refine runOp_ok hcall h1 ⟨?_, runLine_ok hcall rest zs _ _ _ _ K h hK⟩
        have key : ∀ z : List Nat, z.all (againR P call all st1) = true → againAll P all st1 z := by
          intro z
          induction z with
          | nil => intro _; trivial
          | cons j z ih =>
            intro hz
            simp only [List.all_cons, Bool.and_eq_true] at hz
            exact ⟨againR_ok hcall hz.1, ih hz.2⟩
        exact key z hz
      · cases h
    · cases h

theorem lkE_cleanE : ∀ {env : Env} {seen : List Nat} {s : Nat}, hasN seen s = false → lkE (cleanE seen env) s = lkE env s
  | [], _, _, _ => rfl
  | (t, d) :: env, seen, s, h => by
    simp only [cleanE, lkE]
    cases hs : hasN seen t with
    | true =>
      simp only [cond_true]
      rw [lkE_cleanE h, if_neg]
      rintro rfl
      rw [h] at hs; cases hs
    | false =>
      simp only [cond_false, lkE]
      by_cases e : s = t
      · rw [if_pos e, if_pos e]
      · rw [if_neg e, if_neg e]
        refine lkE_cleanE ?_
        have : (t == s) = false := by simpa using Ne.symm e
        simp only [hasN, this, cond_false, h]

theorem invI_clean (st : St) {w0 : World} {S : Frm} {a : Act} {w : World} (hi : InvI w0 S st.nx st a w) : InvI w0 S (clean st).nx (clean st) a w := by
  obtain ⟨pu, ow, m1, m2, m3, m4, m5, m6, m7⟩ := hi
  exact ⟨pu, ow, m1, fun s => by
    show Rep w pu ow _ (lkE (cleanE [] st.env) s)
    rw [lkE_cleanE rfl]
    exact m2 s, m3, m4, m5, m6, m7⟩

theorem entails_clean (st : St) : Entails st (clean st) := fun _ _ _ _ _ hi => invI_clean st hi
theorem entailsK_clean (st : St) : EntailsK st (clean st) := fun _ _ _ _ _ hi => invI_clean st hi

theorem runC_ok {E : St → St → Prop} (hE : ∀ st, E st (clean st)) (hcall : ∀ f ds out, call f ds = some out → Contract P f ds out) (hcallM : ∀ f ds blk r blk', callM f ds blk = some (r, blk') → ContractM P f ds blk r blk') {fuel : Nat} : ∀ (c : Code) (st st' : St) (x : X) (K : X → St → Prop), runC P call callM fuel c st = some (x, st') → K x st' → evG E P c K st := by
  intro c
  induction c with
  | skip => intro st st' x K h hK; simp only [runC, Option.some.injEq, Prod.mk.injEq] at h; obtain ⟨rfl, rfl⟩ := h; exact hK
  | label l => intro st st' x K h hK; simp only [runC, Option.some.injEq, Prod.mk.injEq] at h; obtain ⟨rfl, rfl⟩ := h; exact hK
  | region id ops draw =>
    intro st st' x K h hK
    cases draw with
    | false => exact .inr (runOpsM_ok hcall hcallM _ _ _ _ _ _ h hK)
    | true =>
      unfold runC runDraw at h
      split at h
      · rename_i hdom
        split at h
        · rename_i m hm
          split at h
          · rename_i hc
            split at h
            · rename_i st1 h1
              exact .inl ⟨m, hc, hdom, runOps_ok hcall _ _ _ _ _ _ h1 (runOps_ok hcall _ _ _ _ _ _ h hK)⟩
            · cases h
          · cases h
        · split at h
          · rename_i m hm
            split at h
            · rename_i hc
              split at h
              · rename_i st1 h1
                exact .inr (.inl ⟨m, _, hc, hdom, runOps_ok hcall _ _ _ _ _ _ h1 (runLine_ok hcall _ _ _ _ _ _ _ h hK)⟩)
              · cases h
            · cases h
          · cases h
      · cases h
  | seq a b iha ihb =>
    intro st st' x K h hK
    unfold runC at h
    split at h
    · rename_i st1 h1
      exact .inl (iha st st1 .normal (kSeq (evG E P b K) K) h1 (ihb _ _ _ _ h hK))
    · rename_i hn
      refine .inl (iha st st' x (kSeq (evG E P b K) K) h ?_)
      cases x with
      | normal => exact (hn _ h).elim
      | _ => exact hK
  | cond c a b iha ihb =>
    intro st st' x K h hK
    unfold runC at h
    split at h
    · rename_i hc; exact ⟨true, hc, (fun _ => iha _ _ _ _ h hK), (fun hf => by cases hf)⟩
    · rename_i hc; exact ⟨false, hc, (fun hf => by cases hf), fun _ => ihb _ _ _ _ h hK⟩
    · cases h
  | block id c ih =>
    intro st st' x K h hK
    unfold runC at h
    split at h
    · rename_i id' st1 h1
      split at h
      · rename_i he
        simp only [Option.some.injEq, Prod.mk.injEq] at h
        obtain ⟨rfl, rfl⟩ := h
        refine ih st st1 (.exit id') (kBlock id K) h1 ?_
        simp only [kBlock, if_pos he]
        exact hK
      · rename_i he
        simp only [Option.some.injEq, Prod.mk.injEq] at h
        obtain ⟨rfl, rfl⟩ := h
        refine ih st st1 (.exit id') (kBlock id K) h1 ?_
        simp only [kBlock, if_neg he]
        exact hK
    · rename_i hn
      refine ih st st' x (kBlock id K) h ?_
      cases x with
      | exit i => exact (hn _ _ h).elim
      | _ => exact hK
  | loop c ih =>
    intro st st' x K h hK
    have hx : ∀ (n : Nat) (st : St), iter n (runC P call callM fuel c) st = some (x, st') → x ≠ .normal := by
      intro n
      induction n with
      | zero => intro st h; cases h
      | succ n ihn =>
        intro st h
        unfold iter at h
        split at h
        · exact ihn _ h
        · rename_i hn
          rintro rfl
          exact hn _ h
    refine ⟨fun n s => ∃ s0, s = clean s0 ∧ iter n (runC P call callM fuel c) s0 = some (x, st'), fuel, ⟨clean st, hE st, st, rfl, h⟩, ?_⟩
    rintro n s ⟨s0, rfl, hs⟩
    cases n with
    | zero => cases hs
    | succ n =>
      unfold iter at hs
      split at hs
      · rename_i st1 h1
        refine ih _ _ _ _ h1 ?_
        exact ⟨n, clean st1, by omega, hE st1, st1, rfl, hs⟩
      · rename_i hn
        refine ih _ _ _ _ hs ?_
        cases x with
        | normal => exact (hn _ hs).elim
        | _ => exact hK
  | exit id => intro st st' x K h hK; simp only [runC, Option.some.injEq, Prod.mk.injEq] at h; obtain ⟨rfl, rfl⟩ := h; exact hK
  | ret => intro st st' x K h hK; simp only [runC, Option.some.injEq, Prod.mk.injEq] at h; obtain ⟨rfl, rfl⟩ := h; exact hK
  | scope c ih => intro st st' x K h hK; exact ih _ _ _ _ h hK
  | _ => intro st st' x K h hK; cases h

theorem resAll_map {st : St} : ∀ {rv : List ResultVar} {ds : List D}, resAll P st rv = some ds → rv.map (resD P st) = ds.map some
  | [], ds, h => by simp only [resAll, Option.some.injEq] at h; subst h; rfl
  | rv :: l, ds, h => by
    unfold resAll at h
    split at h
    · rename_i d hd
      obtain ⟨ds', h1, rfl⟩ := Option.map_eq_some_iff.1 h
      simp only [List.map_cons, hd, resAll_map h1]
    · cases h

theorem finR_ok {hp hpX : Nat → Option Blk} : ∀ {ss : List Src} {ds rs : List D}, finR hp hpX ss ds = some rs → finL hp hpX ss ds rs
  | [], [], rs, h => by simp only [finR, Option.some.injEq] at h; subst h; trivial
  | [], _ :: _, _, h => by cases h
  | _ :: _, [], _, h => by cases h
  | s :: ss, d :: ds, rs, h => by
    unfold finR at h
    split at h
    · rename_i r hr
      obtain ⟨rs', h1, rfl⟩ := Option.map_eq_some_iff.1 h
      refine ⟨?_, finR_ok h1⟩
      cases s with
      | pure => exact hr
      | nil =>
        simp only at hr
        split at hr
        · injection hr with hr; exact ⟨rfl, 0, hr.symm⟩
        · cases hr
      | blk b =>
        simp only at hr
        split at hr
        · rename_i blk hb
          split at hr
          · split at hr
            · rename_i hl
              obtain ⟨rfl, rfl⟩ := hl
              split at hr
              · rename_i hf
                injection hr with hr
                exact ⟨blk, blk.rows, rfl, hb, hr.symm, by rw [if_pos hf]⟩
              · rename_i hf
                split at hr
                · rename_i rows hp'
                  split at hr
                  · rename_i hlen
                    injection hr with hr
                    exact ⟨blk, rows, by rw [hlen], hb, hr.symm, by rw [if_neg hf]; exact hp'⟩
                  · cases hr
                · cases hr
            · cases hr
          · cases hr
        · cases hr
    · cases h

theorem finL_len {hp hpX : Nat → Option Blk} : ∀ {ss : List Src} {ds rs : List D}, finL hp hpX ss ds rs → rs.length = ds.length
  | [], [], [], _ => rfl
  | _ :: _, _ :: _, _ :: _, h => by simp [finL_len h.2]
  | [], _ :: _, _, h => h.elim
  | [], [], _ :: _, h => h.elim
  | _ :: _, [], _, h => by simp [finL] at h
  | _ :: _, _ :: _, [], h => by simp [finL] at h

theorem regroup_ok : ∀ {ds rc : List D}, rc.length = (ds.flatMap cellsD).length → rc.all isCell = true → (regroup ds rc).flatMap cellsD = rc ∧ ds.map (fun d => (isCell d, (cellsD d).length)) = (regroup ds rc).map (fun d => (isCell d, (cellsD d).length))
  | [], rc, h, _ => by simp at h; subst h; exact ⟨rfl, rfl⟩
  | d :: ds, rc, h, ha => by
    cases hc : isCell d with
    | false =>
      obtain ⟨cs, rfl⟩ := not_cell hc
      rw [List.flatMap_cons, List.length_append] at h
      simp only [cellsD] at h
      simp only [regroup]
      have hd : (rc.drop cs.length).all isCell = true := by
        rw [List.all_eq_true] at ha ⊢
        exact fun x hx => ha x (List.mem_of_mem_drop hx)
      obtain ⟨h1, h2⟩ := regroup_ok (ds := ds) (rc := rc.drop cs.length) (by rw [List.length_drop]; omega) hd
      refine ⟨by rw [List.flatMap_cons, h1]; simp [cellsD], ?_⟩
      rw [List.map_cons, List.map_cons, h2]
      congr 1
      simp only [isCell, cellsD, List.length_take, Prod.mk.injEq, true_and]
      omega
    | true =>
      rw [List.flatMap_cons, List.length_append, cellsD_cell hc] at h
      cases rc with
      | nil => rw [List.length_nil, List.length_singleton] at h; omega
      | cons r rc =>
        simp only [List.all_cons, Bool.and_eq_true] at ha
        obtain ⟨h1, h2⟩ := regroup_ok (ds := ds) (rc := rc) (by rw [List.length_cons, List.length_singleton] at h; omega) ha.2
        have hr : regroup (d :: ds) (r :: rc) = r :: regroup ds rc := by cases d <;> first | (cases hc; done) | rfl
        rw [hr]
        refine ⟨by rw [List.flatMap_cons, h1, cellsD_cell ha.1]; rfl, ?_⟩
        simp only [List.map_cons, h2, cellsD_cell hc, cellsD_cell ha.1, hc, ha.1]
        rfl

theorem finD_ok {rv : List ResultVar} {st : St} {r : D} (h : finD P rv st = some r) : Fin P rv st r := by
  unfold finD at h
  split at h
  · rename_i ds hds
    simp only at h
    split at h
    · rename_i rc hrc
      split at h
      · rename_i hc
        injection h with h
        have hfl := finR_ok hrc
        obtain ⟨h1, h2⟩ := regroup_ok (finL_len hfl) hc.2.2
        refine .inr ⟨_, ds, regroup ds rc, resAll_map hds, hc.1, ?_, h.symm, hc.2.1, h2, ?_⟩
        · rw [h1]; exact hfl
        · rw [h1]; exact hc.2.2
      · cases h
    · cases h
  · cases h

theorem run1_ok (hmix : P.follows .mixedOrders = true) {fuel : Nat} (hcall : ∀ f ds out, call f ds = some out → Contract P f ds out) (hcallM : ∀ f ds blk r blk', callM f ds blk = some (r, blk') → ContractM P f ds blk r blk')
    (f : FuncId) (ds : List D) (out : Outc) (h : run1 P fuel call callM f ds = some out) : Contract P f ds out := by
  unfold run1 at h
  split at h
  · rename_i fn hf
    split at h
    · rename_i c hb
      split at h
      · rename_i hn
        refine contract_of hmix hf hb hn.1 hn.2 ?_
        split at h
        · rename_i st hr
          obtain ⟨r, h1, rfl⟩ := Option.map_eq_some_iff.1 h
          exact runC_ok entails_clean hcall hcallM c _ _ _ _ hr ⟨r, rfl, finD_ok h1⟩
        · rename_i st hr
          obtain ⟨r, h1, rfl⟩ := Option.map_eq_some_iff.1 h
          exact runC_ok entails_clean hcall hcallM c _ _ _ _ hr ⟨r, rfl, finD_ok h1⟩
        · rename_i d st hr
          injection h with h
          exact runC_ok entails_clean hcall hcallM c _ _ _ _ hr h.symm
        · cases h
      · cases h
    · cases h
  · cases h

theorem resM_ok {rv : List ResultVar} {st : St} {r : D} {blk' : Blk} (h : resM P rv st = some (r, blk')) : (∃ ds, rv.map (resD P st) = ds.map some ∧ r = tupOf ds ∧ lkH st.hp 0 = some blk') ∧ scalR blk'.rows = true ∧ okOut r = true := by
  unfold resM at h
  split at h
  · rename_i ds blk h1 h2
    split at h
    · rename_i h3
      injection h with h
      injection h with h4 h5
      subst h4 h5
      exact ⟨⟨ds, resAll_map h1, rfl, h2⟩, h3.1, h3.2⟩
    · cases h
  · cases h

theorem run1M_ok (hmix : P.follows .mixedOrders = true) {fuel : Nat} (hcall : ∀ f ds out, call f ds = some out → Contract P f ds out) (hcallM : ∀ f ds blk r blk', callM f ds blk = some (r, blk') → ContractM P f ds blk r blk')
    (f : FuncId) (ds : List D) (blk : Blk) (r : D) (blk' : Blk) (h : run1M P fuel call callM f ds blk = some (r, blk')) : ContractM P f ds blk r blk' := by
  unfold run1M at h
  split at h
  · rename_i fn hf
    split at h
    · rename_i c hb
      split at h
      · rename_i hn
        split at h
        · rename_i st hr
          obtain ⟨h1, h2, h3⟩ := resM_ok h
          exact contractM_of hmix hf hb hn.1 hn.2.1 hn.2.2 h2 h3 (runC_ok entailsK_clean hcall hcallM c _ _ _ _ hr h1)
        · rename_i st hr
          obtain ⟨h1, h2, h3⟩ := resM_ok h
          exact contractM_of hmix hf hb hn.1 hn.2.1 hn.2.2 h2 h3 (runC_ok entailsK_clean hcall hcallM c _ _ _ _ hr h1)
        · cases h
      · cases h
    · cases h
  · cases h

theorem runP_ok (hmix : P.follows .mixedOrders = true) {fuel : Nat} : ∀ k : Nat, (∀ f ds out, (runP P fuel k).1 f ds = some out → Contract P f ds out) ∧ ∀ f ds blk r blk', (runP P fuel k).2 f ds blk = some (r, blk') → ContractM P f ds blk r blk'
  | 0 => ⟨fun _ _ _ h => (by cases h), fun _ _ _ _ _ h => (by cases h)⟩
  | k + 1 => ⟨run1_ok hmix (runP_ok hmix k).1 (runP_ok hmix k).2, run1M_ok hmix (runP_ok hmix k).1 (runP_ok hmix k).2⟩

/-- What runs, holds. -/
theorem runF_ok (hmix : P.follows .mixedOrders = true) {fuel : Nat} (k : Nat) (f : FuncId) (ds : List D) (out : Outc) (h : runF P fuel k f ds = some out) : Contract P f ds out := (runP_ok hmix k).1 f ds out h

end
end Go.Pv

/- The least and the greatest of three. -/
namespace Go.Pv
section
variable {P : Program} {K : X → St → Prop} {env : Env} {hp : Hp} {nx n id : Nat} {s : Tmp} {x y z : Operand}
end
end Go.Pv
namespace Go.Pv
section
variable {P : Program} {K : X → St → Prop} {env : Env} {hp : Hp} {nx n id : Nat} {s : Tmp} {x : Operand} {t t' : TypeId}
end
end Go.Pv

/- The root of a small number, rounded, made whole: it is small. Plain. -/
namespace Go.Pv.Sq
open Ieee

end Go.Pv.Sq

/- Numbers made floats and back. -/
namespace Go.Pv
class TFloat (P : Program) (t : TypeId) : Prop where h : P.underlying t = some (.float .f64)
section
variable {P : Program} {K : X → St → Prop} {env : Env} {hp : Hp} {nx n id : Nat} {s : Tmp} {x : Operand} {t t' : TypeId}
end
end Go.Pv

/- The library's sort by a comparing function, as a call that writes into an own list whose elements are some integers each. -/
namespace Go.Pv

open Go.Proofs Go.Sort Go.Lib Go.Shelf
set_option linter.unusedSectionVars false
section
variable {P : Program} {ρ : Ren} {α : Type} [Inhabited α]

def encV (cs : α → List Int) (x : α) : List Value := (cs x).map (Value.int .i64)
def encD (cs : α → List Int) (x : α) : List D := (cs x).map (D.int .i64)
theorem encV_len {cs : α → List Int} {k : Nat} (hk : ∀ x, (cs x).length = k) (x : α) : (encV cs x).length = k := by rw [encV, List.length_map, hk]
theorem encD_len {cs : α → List Int} {k : Nat} (hk : ∀ x, (cs x).length = k) (x : α) : (encD cs x).length = k := by rw [encD, List.length_map, hk]

theorem rep_int {w : World} {pu : Nat → Prop} {ow : Nat → Ow} {v : Value} {kd : IntKind} {n : Int} (h : Rep w pu ow v (.int kd n)) : v = .int kd n := by
  cases h with
  | pure _ _ h => cases h; rfl

theorem flat_get {cs : α → List Int} {k : Nat} (hk : ∀ x, (cs x).length = k) (l : List α) {i j : Nat} (hi : i < l.length) (hj : j < k) :
    (flatK (encV cs) k l.toArray)[i * k + j]! = .int .i64 ((cs l[i])[j]'(by rw [hk]; exact hj)) := by
  have hlt : i * k + j < l.toArray.size * k := by
    have := Nat.mul_le_mul_right k (show i + 1 ≤ l.length from hi)
    rw [Nat.add_mul, Nat.one_mul] at this
    simp; omega
  rw [get_flatK _ _ _ _ hlt]
  have e1 : (i * k + j) / k = i := by rw [Nat.add_comm, Nat.add_mul_div_right _ _ (by omega), Nat.div_eq_of_lt hj, Nat.zero_add]
  have e2 : (i * k + j) % k = j := by rw [Nat.add_comm, Nat.add_mul_mod_self_right, Nat.mod_eq_of_lt hj]
  rw [e1, e2]
  have e3 : l.toArray[i]! = l[i] := by simp [hi]
  rw [e3]
  have hj' : j < (cs l[i]).length := by rw [hk]; exact hj
  simp [encV, hj']

theorem cell_get {cs : α → List Int} {k : Nat} (hk : ∀ x, (cs x).length = k) (l : List α) {i j : Nat} {d : D} (h : cellAt (l.map (encD cs)) i j = some d) :
    ∃ hi : i < l.length, ∃ hj : j < k, d = .int .i64 ((cs l[i])[j]'(by rw [hk]; exact hj)) := by
  unfold cellAt at h
  rw [List.getElem?_map] at h
  by_cases hi : i < l.length
  · rw [List.getElem?_eq_getElem hi] at h
    simp only [Option.map_some, Option.bind_some, encD, List.getElem?_map] at h
    by_cases hj : j < (cs l[i]).length
    · rw [List.getElem?_eq_getElem hj] at h
      exact ⟨hi, by rw [← hk l[i]]; exact hj, by simpa using h.symm⟩
    · rw [List.getElem?_eq_none (by omega)] at h; cases h
  · rw [List.getElem?_eq_none (by omega)] at h; cases h

theorem heap_sort {cs : α → List Int} {k : Nat} (w : World) (g off n : Nat) (d : Array α) (os : Array Obj) {c : Array Value} {t : TypeId} {fr : Nat × Nat} (hg : w.heap[g]? = some (.cells c t fr)) :
    (sortWorldK (encV cs) k w g off n d os).heap[g]? = some (.cells (putCells id off (flatK (encV cs) k d) c) t fr) := by
  have hlt : g < w.heap.size := (Array.getElem?_eq_some_iff.1 hg).1
  unfold sortWorldK grow putRowK putRow mapBlock
  show ((Sort.ahead w n).heap.modify g _ ++ os)[g]? = _
  rw [Array.getElem?_append_left (by rw [Array.size_modify]; exact hlt), Array.getElem?_modify, if_pos rfl]
  show Option.map _ w.heap[g]? = _
  rw [hg]; rfl
theorem heap_sort_other {cs : α → List Int} {k : Nat} (w : World) (g off n : Nat) (d : Array α) (os : Array Obj) {g' : Nat} (h : g' < w.heap.size) (hne : g' ≠ g) :
    (sortWorldK (encV cs) k w g off n d os).heap[g']? = w.heap[g']? := by
  unfold sortWorldK grow putRowK putRow mapBlock
  show ((Sort.ahead w n).heap.modify g _ ++ os)[g']? = _
  rw [Array.getElem?_append_left (by rw [Array.size_modify]; exact h), Array.getElem?_modify, if_neg (fun e => hne e.symm)]
  rfl

theorem world_grow {W w' : World} (h : Below W.heap.size W w') : ∃ q os', w' = grow (W.drewN q) os' := by
  refine ⟨w'.drawn - W.drawn, w'.heap.extract W.heap.size w'.heap.size, ?_⟩
  have h1 : w'.heap = W.heap ++ w'.heap.extract W.heap.size w'.heap.size := by
    apply Array.ext_getElem?
    intro i
    by_cases hi : i < W.heap.size
    · rw [Array.getElem?_append_left hi, h.block i hi]
    · rw [Array.getElem?_append_right (by omega), Array.getElem?_extract]
      have hsz := h.size
      by_cases hj : i < w'.heap.size
      · rw [if_pos (by omega)]; congr 1; omega
      · rw [if_neg (by omega), Array.getElem?_eq_none (by omega)]
  have h2 : W.drawn + (w'.drawn - W.drawn) = w'.drawn := by have : W.drawn ≤ w'.drawn := h.drawn; omega
  obtain ⟨a, b, c, d, e⟩ := w'
  obtain ⟨a', b', c', d', e'⟩ := W
  have k1 := h.os; have k2 := h.tape; have k3 := h.output
  simp only at k1 k2 k3 h1 h2
  subst k1; subst k2; subst k3
  unfold grow World.drewN
  simp only [World.mk.injEq, true_and, and_true]
  exact ⟨h1, h2.symm⟩
/-- A comparing function's contract, as the library's sort wants it. -/
theorem cmp_calls {cs : α → List Int} {g : FuncId} {x y : α} {n : Int} (h : Contract P g [.agg (encD cs x), .agg (encD cs y)] (.ret (.int .i64 n))) (W : World) :
    Calls P g #[.agg (encV cs x).toArray, .agg (encV cs y).toArray] W fun e w' => e = .returned (.int .i64 n) ∧ ∃ q os', w' = grow (W.drewN q) os' := by
  have hagg : ∀ x : α, RepP W (fun _ => False) (.agg (encV cs x).toArray) (.agg (encD cs x)) := fun x => by
    refine .agg _ _ (by simp [encV, encD]) fun i v d h1 h2 => ?_
    simp only [encV, List.getElem?_toArray, List.getElem?_map] at h1
    simp only [encD, List.getElem?_map] at h2
    cases hx : (cs x)[i]? with
    | none => rw [hx] at h1; cases h1
    | some z =>
      rw [hx] at h1 h2
      injection h1 with h1; injection h2 with h2
      subst h1; subst h2
      exact .int _ _
  refine (h.2 (fun _ => False) W _ (fun g hg => hg.elim) ⟨rfl, fun i v d h1 h2 => ?_⟩).mono fun e w' ⟨hb, Q, hQ, v, he, hr⟩ => ?_
  · match i with
    | 0 => injection h1 with h1; injection h2 with h2; subst h1; subst h2; exact hagg x
    | 1 => injection h1 with h1; injection h2 with h2; subst h1; subst h2; exact hagg y
    | i + 2 => cases h2
  · obtain ⟨ow, _, hv, _⟩ := hr 0
    exact ⟨by rw [he, rep_int hv], world_grow hb⟩

/-- Sorted so that a comes ahead of b where cf a b is negative. -/
def sortBy (cf : α → α → Int) (l : List α) : List α := l.mergeSort fun x y => !(ltOf cf) y x

theorem contractM_sort (L : SlLaysF0.n6 P ρ) (k : Nat) (k0 : 0 < k) (aE : ∀ w, (isAgg (ρ.t 24)).run P w = .ok true w) (zE : ∀ w, (Go.sizeOf (ρ.t 24)).run P w = .ok k w)
    (cs : α → List Int) (hk : ∀ x, (cs x).length = k) (cf : α → α → Int) (hO : SWO (ltOf cf)) (hT : ∀ x y, (ltOf cf) x y = false → (ltOf cf) y x = false → x = y) (g : Nat)
    (eg : ∀ args w, (callFunc g args).run P w = .ok (.enter g args) w)
    (hc : ∀ x y : α, Contract P g [.agg (encD cs x), .agg (encD cs y)] (.ret (.int .i64 (cf x y))))
    (hrun : Runs P (ρ.f 6)) (l : List α) (hl : l.length < 4611686018427387904) :
    ContractM P (ρ.f 6) [.os 0 0 l.length, .clo (.func g) [] []] ⟨k, true, l.map (encD cs)⟩ (.tup []) ⟨k, true, (sortBy cf l).map (encD cs)⟩ := by
  have hlen : (sortBy cf l).length = l.length := List.length_mergeSort l
  have hlite : ∀ l : List α, flatRows (l.map (encD cs)) = true := fun l => by
    simp only [flatRows, List.all_map, List.all_eq_true, Function.comp, encD]
    intro x _ y hy
    rfl
  have hscal : ∀ l : List α, scalR (l.map (encD cs)) = true := fun l => by
    simp only [scalR, List.all_map, List.all_eq_true, Function.comp, encD]
    intro x _ y hy
    rfl
  refine ⟨hrun, hscal _, rfl, fun S w args o hS ho hB hsz hrep => ?_⟩
  obtain ⟨v0, v1, rfl⟩ : ∃ v0 v1, args = #[v0, v1] := by
    match args, hsz with
    | ⟨[a, b]⟩, _ => exact ⟨a, b, rfl⟩
  have h0 := hrep 0 v0 _ rfl rfl
  have h1 : v1 = .func (.func g) #[] #[] := by
    have h := hrep 1 v1 _ rfl rfl
    have em : ∀ {xs : Array Value}, xs.size = ([] : List D).length → xs = #[] := fun h => Array.eq_empty_of_size_eq_zero (by simpa using h)
    cases h with
    | pure _ _ h => cases h with
      | clo fn xs ys _ _ hx _ hy _ => rw [em hx, em hy]
    | clo fn xs ys _ _ hx _ hy _ => rw [em hx, em hy]
  subst h1
  -- nothing to sort
  have none_case : ∀ (p : Option Addr) (cap : Nat), v0 = .slice p 0 cap → l.length = 0 → Calls P (ρ.f 6) #[v0, .func (.func g) #[] #[]] w fun e w' => (Below 0 w w' ∧ ∀ g, g < w.heap.size → (∀ a k sz, o ≠ .lies g a k sz) → w'.heap[g]? = w.heap[g]?) ∧
      ∃ v, e = .returned v ∧ BlkOK w' (fun _ => False) (owM o) o ⟨k, true, (sortBy cf l).map (encD cs)⟩ ∧ Rep w' (fun _ => False) (owM o) v (.tup []) := by
    intro p cap hv hz
    subst hv
    refine (AnyF.slices_SortFunc_none L p cap _ w).mono ?_
    rintro e w' ⟨rfl, rfl⟩
    have hnil : l = [] := List.eq_nil_of_length_eq_zero hz
    subst hnil
    refine ⟨⟨Below.refl _ _, fun _ _ _ => rfl⟩, _, rfl, ?_, .tup _ _ rfl (fun i v d h1 h2 => by simp at h2)⟩
    refine ⟨fun _ => hlite _, ?_⟩
    have h2 := hB.2
    cases o with
    | dead => exact h2
    | pending => trivial
    | empty => simp [sortBy]
    | mp g' => simpa [sortBy] using h2
    | lies g' o' k' sz =>
      obtain ⟨h3, h4, h5, h6, c, t, h7, h8, h9⟩ := h2
      refine ⟨h3, h4, by simp [sortBy], by simpa [sortBy] using h6, c, t, h7, h8, ?_⟩
      intro i j d hd
      simp [sortBy, cellAt] at hd
  generalize hn : l.length = n at h0
  cases h0 with
  | pure _ _ h => cases h
  | osd a n c _ _ _ hb =>
    have : o = .dead := hb
    rcases ho with h | ⟨g', a', k', sz, h, _⟩ <;> rw [h] at this <;> cases this
  | ose a b off hb => exact none_case a 0 rfl hn
  | osa a cap b off len g' o' k' sz hb hle hm =>
    by_cases hcap : cap = 0
    · have hz : n = 0 := by omega
      subst hz
      exact none_case a cap rfl hn
    obtain ⟨rfl, hfit⟩ := hm (by omega)
    have ho' : o = .lies g' o' k' sz := hb
    subst ho'
    obtain ⟨h3, h4, h5, h6, c, t, h7, h8, h9⟩ := hB.2
    have h3 : k = k' := h3
    subst h3
    have hglt : g' < w.heap.size := (Array.getElem?_eq_some_iff.1 h7).1
    have hcell : ∀ i j, (hi : i < l.length) → (hj : j < k) → c[o' + i * k + j]? = some (.int .i64 ((cs l[i])[j]'(by rw [hk]; exact hj))) := by
      intro i j hi hj
      have : cellAt (l.map (encD cs)) i j = some (.int .i64 ((cs l[i])[j]'(by rw [hk]; exact hj))) := by
        unfold cellAt
        rw [List.getElem?_map, List.getElem?_eq_getElem hi]
        simp only [Option.map_some, Option.bind_some, encD, List.getElem?_map]
        rw [List.getElem?_eq_getElem (by rw [hk]; exact hj)]; rfl
      obtain ⟨v, hv, hr⟩ := h9 i j _ this
      rw [hv, rep_int hr]
    have hH : HoldsK (encV cs) k w g' o' l.toArray := by
      intro q hq
      have hq' : q < l.length * k := by simpa using hq
      have hi : q / k < l.length := Nat.div_lt_of_lt_mul (by rw [Nat.mul_comm]; exact hq')
      have hj : q % k < k := Nat.mod_lt _ k0
      have e : q / k * k + q % k = q := by rw [Nat.mul_comm]; exact Nat.div_add_mod q k
      refine ⟨?_, ?_⟩
      · show w.cell? ⟨g', o' + q, none⟩ = some (id (flatK (encV cs) k l.toArray)[q]!)
        have h := hcell (q / k) (q % k) hi hj
        have h2 := flat_get hk l hi hj
        rw [Nat.add_assoc, e] at h
        rw [e] at h2
        unfold World.cell?
        simp only [h7]
        rw [h2]
        simpa using h
      · unfold World.frozen?
        simp [h7]
    have hsz' : l.toArray.size < 4611686018427387904 := by simpa using hl
    have hcon := AnyQ.slices_SortFunc_total L k aE zE (encV cs) (encV_len hk) (fun x v hv => by obtain ⟨z, _, rfl⟩ := List.mem_map.1 hv; rfl) cf hO g #[] g' o' cap l.toArray w eg (fun m os dk hdk x y => cmp_calls (hc x y) _) hH hglt hsz' hT
    have ea : o' + 0 * k = o' := by omega
    rw [ea]
    have es : l.toArray.size = l.length := by simp
    rw [es, hn] at hcon
    refine hcon.mono ?_
    rintro e w' ⟨rfl, n, os, rfl⟩
    have hH' := holdsK_sortWorldK_c (encV cs) k w g' o' l.toArray (sortBy cf l).toArray n os hH hglt (by simp [hlen])
    have h7' := heap_sort (cs := cs) (k := k) w g' o' n (sortBy cf l).toArray os h7
    change (Below 0 w (sortWorldK (encV cs) k w g' o' n (sortBy cf l).toArray os) ∧ _) ∧ _
    refine ⟨⟨⟨rfl, rfl, rfl, size_sortWorldK_c (encV cs) k w g' o' n _ os, fun q hq => absurd hq (Nat.not_lt_zero q), Nat.le_add_right _ _⟩, ?_⟩, _, rfl, ⟨fun _ => hlite _, rfl, h4, ?_, ?_, _, t, h7', ?_, ?_⟩, .tup _ _ rfl (fun i v d h1 h2 => by simp at h2)⟩
    · exact fun q hq hno => heap_sort_other w g' o' n _ os hq (fun e => hno o' k sz (by rw [e]))
    · intro r hr
      obtain ⟨x, _, rfl⟩ := List.mem_map.1 hr
      exact encD_len hk x
    · show o' + ((sortBy cf l).map (encD cs)).length * k ≤ sz
      rw [List.length_map, hlen]
      have h6' : o' + (l.map (encD cs)).length * k ≤ sz := h6
      rwa [List.length_map] at h6'
    · rw [putCells, Array.size_mapIdx, h8]
    · intro i j d hd
      obtain ⟨hi, hj, rfl⟩ := cell_get hk _ hd
      have hlt : i * k + j < (sortBy cf l).length * k := by
        have := Nat.mul_le_mul_right k (show i + 1 ≤ (sortBy cf l).length from hi)
        rw [Nat.add_mul, Nat.one_mul] at this
        omega
      have h := (hH' (i * k + j) (by simpa using hlt)).1
      rw [flat_get hk _ hi hj] at h
      unfold World.cell? at h
      simp only [h7'] at h
      refine ⟨_, ?_, .pure _ _ (.int _ _)⟩
      rw [Nat.add_assoc]
      simpa using h
end
end Go.Pv

/- A struct whose last cell is a nil list, and a value, as results. -/
namespace Go.Pv
section
variable {P : Program} {K : X → St → Prop} {env : Env} {hp : Hp} {nx n id : Nat}
end
end Go.Pv

/- Loop heads in functions that write into a block of their caller's: block 0 stays. -/
namespace Go.Pv

section
variable {P : Program} {w w' w0 : World} {pu : Nat → Prop} {ow ow' : Nat → Ow} {base : Nat} {g : Sg}
theorem entailsK_morph {ns : Sg} {k nx : Nat} {ks : List Nat} {st : St} (h00 : (0, 0) ∈ g) (ho : okSg g ns nx = true) (hn : ∀ x ∈ ns, lkE st.env x.1 = .nilsl) : EntailsK st (morph g ns k ks nx st) := by
  unfold okSg at ho
  simp only [Bool.and_eq_true, decide_eq_true_eq, List.all_eq_true] at ho
  obtain ⟨⟨hd1, hd2⟩, hlt⟩ := ho
  have hd2' : (g.map (·.2)).Nodup := by
    rw [List.map_append] at hd2
    exact (List.nodup_append.1 hd2).1
  have hdis : ∀ a s b, (a, b) ∈ g → (s, b) ∈ ns → False := fun a s b h1 h2 => by
    rw [List.map_append] at hd2
    exact (List.nodup_append.1 hd2).2.2 b (List.mem_map.2 ⟨_, h1, rfl⟩) b (List.mem_map.2 ⟨_, h2, rfl⟩) rfl
  intro w0 S a w hF ⟨pu, ow, m1, m2, m3, m4, m5, m6, m7⟩
  let ow' : Nat → Ow := fun b' => match lkI g b' with
    | some b => ow b
    | none => if b' ∈ ns.map (·.2) then .empty else .pending
  have h1 : ∀ b b', (b, b') ∈ g → ow' b' = ow b := fun b b' h => by simp only [ow', lkI_of_mem hd2' h]
  have hg : ∀ b b', lkS g b = some b' → ow' b' = ow b := fun b b' h => h1 b b' (lkS_mem h)
  have h2 : ∀ s b', (s, b') ∈ ns → ow' b' = .empty := fun s b' h => by
    have : lkI g b' = none := by
      cases hl : lkI g b' with
      | none => rfl
      | some b => exact (hdis b s b' (lkI_mem hl) h).elim
    simp only [ow', this]
    rw [if_pos (List.mem_map.2 ⟨_, h, rfl⟩)]
  have h3 : ∀ b', (∀ b, (b, b') ∉ g) → (∀ s, (s, b') ∉ ns) → ow' b' = .pending := fun b' hg hs => by
    have : lkI g b' = none := by
      cases hl : lkI g b' with
      | none => rfl
      | some b => exact (hg b (lkI_mem hl)).elim
    simp only [ow', this]
    rw [if_neg]
    rintro hm
    obtain ⟨⟨s, b⟩, hm', rfl⟩ := List.mem_map.1 hm
    exact hs s hm'
  have hcase : ∀ b' y, (ow' b').on y → ∃ b, (b, b') ∈ g ∧ (ow b).on y := fun b' y h => by
    by_cases hgx : ∃ b, (b, b') ∈ g
    · obtain ⟨b, hb⟩ := hgx
      exact ⟨b, hb, by rw [← h1 b b' hb]; exact h⟩
    · by_cases hsx : ∃ s, (s, b') ∈ ns
      · obtain ⟨s, hs⟩ := hsx
        rw [h2 s b' hs] at h; exact h.elim
      · rw [h3 b' (fun b hb => hgx ⟨b, hb⟩) (fun s hs => hsx ⟨s, hs⟩)] at h; exact h.elim
  refine ⟨pu, ow', ⟨fun b' blk' hb => ?_, fun b' hb => ?_, fun b1 b2 y e1 e2 => ?_, fun b' y e => ?_, m1.zone⟩, fun s => ?_, m3, m4, fun b' hb => ?_, m6, m7.1, m7.2.1, fun b => by
    by_cases hb : b = 0
    · subst hb; rw [h1 0 0 h00]; exact m7.2.2 0
    · exact .inl (hF b hb)⟩
  · simp only [morph, lkH_append, Option.or_eq_some_iff] at hb
    rcases hb with hb | ⟨_, hb⟩
    · obtain ⟨rfl, s, hs⟩ := lkH_nilH hb
      rw [h2 s b' hs]
      exact ⟨fun _ => rfl, rfl⟩
    · obtain ⟨b, blk, hm, hb2, rfl⟩ := morphH_get hb
      rw [h1 b b' hm]
      exact (m1.blk b blk hb2).ren hg
  · simp only [morph, lkH_append, Option.or_eq_none_iff] at hb
    by_cases hgx : ∃ b, (b, b') ∈ g
    · obtain ⟨b, hm⟩ := hgx
      rw [h1 b b' hm]
      refine m1.none b ?_
      cases hl : lkH st.hp b with
      | none => rfl
      | some blk => exact (morphH_none (by rw [hl]; simp) hm hb.2).elim
    · by_cases hsx : ∃ s, (s, b') ∈ ns
      · obtain ⟨s, hs⟩ := hsx
        exact (lkH_nilH_none hs hb.1).elim
      · exact .inr (h3 b' (fun b hb => hgx ⟨b, hb⟩) (fun s hs => hsx ⟨s, hs⟩))
  · obtain ⟨c1, hc1, f1⟩ := hcase b1 _ e1
    obtain ⟨c2, hc2, f2⟩ := hcase b2 _ e2
    have := m1.injO c1 c2 _ f1 f2
    subst this
    exact fst_inj hd1 hc1 hc2
  · obtain ⟨c, hc, f⟩ := hcase b' _ e
    exact m1.ownO c _ f
  · simp only [morph]
    rw [lkE_append]
    split
    · rename_i hs
      obtain ⟨b, hb, he⟩ := lkE_nilE hs
      rw [he]
      have := m2 s
      rw [hn (s, b) hb] at this
      have hv : a.tmps.getD s undef = .slice none 0 0 := by
        generalize a.tmps.getD s undef = v at this
        cases this with
        | pure _ _ h => cases h
        | nilsl => rfl
      rw [hv]
      exact .ose none b 0 (h2 s b hb)
    · unfold morphE
      rw [lkE_restr (fun s => Go.Pv.ren g (lkE st.env s))]
      split
      · exact (m2 s).ren hg
      · exact .pure _ _ (.undef _)
  · simp only [morph] at hb
    refine h3 b' (fun b hm => ?_) fun s hm => ?_
    · have := hlt (b, b') (by simp [hm])
      simp at this
      omega
    · have := hlt (s, b') (by simp [hm])
      simp at this
      omega


theorem entailsK_eq {ns : Sg} {k nx : Nat} {ks : List Nat} {st st' : St} (g : Sg) (h00 : (0, 0) ∈ g) (ho : okSg g ns nx = true) (hn : ∀ x ∈ ns, lkE st.env x.1 = .nilsl) (he : morph g ns k ks nx st = st') : EntailsK st st' := he ▸ entailsK_morph h00 ho hn
end
end Go.Pv

/- An element appended to the first ones of an own list. -/
namespace Go.Pv
section
variable {P : Program} {E : St → St → Prop} {K : X → St → Prop} {env : Env} {hp : Hp} {nx n id : Nat} {s : Tmp} {x y f : Operand} {t t' : TypeId}
/-- One element appended to the first ones of an own list; what stood behind them is forgotten. -/
theorem go_app_mapt {α : Type} {f : α → List D} {e k b b2 len : Nat} {l : List α} {a : α} {fl2 : Bool} [hs : TSlice P t e k] (hf : ScalF f k) (h1 : evalD env x = .os b 0 len) (h2 : evalD env y = .os b2 0 1) (hb : lkH hp b = some ⟨k, true, l.map f⟩) (hlen : len ≤ l.length) (hb2 : lkH hp b2 = some ⟨k, fl2, [f a]⟩)
    (hc1 : ((f a).all cell1) = true) (hz : zeroOK P e = true) (hby : Nat.ble (P.bytesOf e) 4096 = true) (hn : len ≤ 1000000000) (hd : okDst n (some s) = true)
    (hk : K .normal ⟨(s, .os b 0 (len + 1)) :: purgeE b env, (b, ⟨k, true, (l.take len ++ [a]).map f⟩) :: purgeH b hp, nx, n⟩) : evOp P (.call { callee := .builtin .append, args := #[x, y], argTypes := #[t, t] }) id (some s) ⟨env, hp, nx, n⟩ K := by
  have hby' : P.bytesOf e ≤ 4096 := Nat.le_of_ble_eq_true hby
  have hap : appendD P (lkH hp) t (evalD env x) (evalD env y) = some (some b, ⟨k, true, (l.take len ++ [a]).map f⟩) := by
    have hx : contentD (lkH hp) (.os b2 0 1) = some [f a] := by simp [contentD, hb2]
    have ho : contentD (lkH hp) (.os b 0 len) = some ((l.take len).map f) := by
      simp only [contentD, hb, Option.bind_some]
      rw [if_pos (by simpa using hlen)]
      rw [List.drop_zero, List.map_take]
    unfold appendD
    rw [hs.u, h1, h2]
    simp only [hx, ho, Option.bind_some]
    have hmul : (len + 1) * P.bytesOf e ≤ 140737488355328 := by
      have := Nat.mul_le_mul (show len + 1 ≤ 1000000001 by omega) hby'
      omega
    have hdl : (l.take len).length = len := by simp; omega
    rw [if_pos]
    · rw [hb]
      simp only [Option.bind_some]
      rw [if_pos]
      · have hft : flatRows [f a] = true := by
          have := flat_map hf [a]
          simpa using this
        simp [hs.c, hft]
      · refine ⟨.inl hs.c.symm, fun r hr c hc => ?_⟩
        have : ∃ a', r = f a' := by
          simp only [List.mem_append, List.mem_map, List.mem_singleton] at hr
          rcases hr with ⟨a', _, rfl⟩ | rfl
          · exact ⟨a', rfl⟩
          · exact ⟨a, rfl⟩
        obtain ⟨a', rfl⟩ := this
        exact scal1_ment (List.all_eq_true.1 (hf a').2 c hc)
    · refine ⟨by rw [hs.c]; exact hs.p, fun r hr => ?_, fun r hr c hc => ?_, by simp only [List.length_map, hdl, List.length_cons, List.length_nil]; exact hmul, by simp only [List.length_map, hdl, List.length_cons, List.length_nil]; omega, hz, by simp [kOK, hb2, hs.c]⟩
      · simp only [List.mem_singleton] at hr
        rw [hr, (hf a).1, hs.c]
      · simp only [List.mem_singleton] at hr
        subst hr
        exact List.all_eq_true.1 hc1 c hc
  refine go_append_on hap hd ?_
  have e : (⟨k, true, (l.take len ++ [a]).map f⟩ : Blk).rows.length = len + 1 := by simp; omega
  rw [e]
  exact hk

theorem fin_nil1 {r1 : ResultVar} {k : Nat} (h1 : resD P ⟨env, hp, nx, n⟩ r1 = some .nilsl) : Fin P [r1] ⟨env, hp, nx, n⟩ (.fr k []) :=
  .inl ⟨[.nil], [.nilsl], [.fr k []], by simp [h1], by simp [frsOf], ⟨⟨rfl, k, rfl⟩, trivial⟩, rfl, fun _ => rfl⟩
/-- Of a block's rows the last ones may be forgotten. -/
theorem entails_take {st : St} {b : Nat} {blk : Blk} (m : Nat) (hb : lkH st.hp b = some blk) (hk : 0 < blk.k := by decide) : Entails st ⟨st.env, updH b ⟨blk.k, blk.flat, blk.rows.take m⟩ st.hp, st.nx, st.n⟩ := by
  intro w0 S a w hF ⟨pu, ow, m1, m2, m3, m4, m5, m6, m7⟩
  refine ⟨pu, ow, ⟨fun c blk2 hc => ?_, fun c hc => ?_, m1.injO, m1.ownO, m1.zone⟩, m2, m3, m4, m5, m6, m7⟩
  · rw [lkH_updH] at hc
    split at hc
    · rename_i h
      obtain ⟨rfl, _⟩ := h
      injection hc with hc; subst hc
      exact blk_take (m1.blk c blk hb) (fun g e => by have := m1.blk c blk hb; rw [e] at this; have h2 : blk.k = 0 := this.2.1.2; omega) m
    · exact m1.blk c blk2 hc
  · rw [lkH_updH] at hc
    split at hc
    · cases hc
    · exact m1.none c hc
end
end Go.Pv

/- A new list of three integers. -/
namespace Go.Pv
section
variable {P : Program} {E : St → St → Prop} {K : X → St → Prop} {env : Env} {hp : Hp} {nx n id : Nat} {s : Tmp} {x y u v : Operand} {t : TypeId}
theorem go_bs3_int {e : Nat} {z : D} {k k2 k3 : IntKind} {a b c : Int} [hs : TSlice P t e 1] [hz : TZero P e z] (h1 : evalD env x = .int k a) (h2 : evalD env y = .int k2 b) (h3 : evalD env u = .int k3 c) (hzl : (cellsD z).length = 1) (hd : okDst n (some s) = true)
    (hk : K .normal ⟨(s, .os id 0 3) :: env, (id, ⟨1, true, [[.int k a], [.int k2 b], [.int k3 c]]⟩) :: hp, nx, n⟩) : evOp P (.buildSlice t 3 #[(0, x), (1, y), (2, u)]) id (some s) ⟨env, hp, nx, n⟩ K := by
  have ho : op1 P (evalD env) (.buildSlice t 3 #[(0, x), (1, y), (2, u)]) = some (false, ⟨1, true, [[.int k a], [.int k2 b], [.int k3 c]]⟩) := by
    simp only [op1, hs.u, hz.h, Option.bind_some]
    rw [if_neg (by decide), if_pos ⟨hz.k, by rw [hzl, hs.c], by rw [hs.c]; decide, by rw [hs.c]; decide⟩]
    simp only [List.map_cons, List.map_nil, h1, h2, h3, hs.c]
    rfl
  unfold evOp
  simp only [op0, ho]
  exact ⟨hd, hk⟩
end
end Go.Pv

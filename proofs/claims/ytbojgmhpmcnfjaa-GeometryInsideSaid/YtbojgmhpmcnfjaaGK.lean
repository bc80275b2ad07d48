import Derived.Test.YtbojgmhpmcnfjaaGI
import Derived.Test.YtbojgmhpmcnfjaaProg
import Derived.KernelRfl
/- Part of the proofs over Ytbojgmhpmcnfjaa: H16, H17. -/
set_option linter.unusedVariables false
set_option linter.unusedSimpArgs false
set_option linter.unnecessarySimpa false
namespace Go.Pv.Geo
/- The parity of the edges to the right of a point is that of the edges above it: plain. -/
/-- Is an edge met by the ray to the right; above? -/
def rightX (a b p : Pt) : Bool :=
  let u := if b.y < a.y then b else a
  let v := if b.y < a.y then a else b
  decide ((u.y ≤ p.y ∧ p.y < v.y) ∧ 0 < crossE u v p)
def upX (a b p : Pt) : Bool := decide (¬ (a.x ≤ p.x ↔ b.x ≤ p.x) ∧ (crossE a b p < 0 ↔ a.x < b.x))
theorem xor_dec {A B : Prop} [Decidable A] [Decidable B] : (decide A ^^ decide B) = decide (¬ (A ↔ B)) := by
  by_cases h : A <;> by_cases h' : B <;> simp [h, h']
def quad (a p : Pt) : Bool := decide (p.x < a.x ∧ p.y < a.y)
theorem sg {u v : Int} : (¬0 < u ∨ ¬0 < v ∨ 0 < u * v) ∧ (¬u < 0 ∨ ¬0 < v ∨ u * v < 0) ∧ (¬0 < u ∨ ¬v < 0 ∨ u * v < 0) ∧ (¬u < 0 ∨ ¬v < 0 ∨ 0 < u * v) ∧ (¬u = 0 ∨ u * v = 0) ∧ (¬v = 0 ∨ u * v = 0) := by
  refine ⟨?_, ?_, ?_, ?_, ?_, ?_⟩
  · by_cases h : 0 < u <;> by_cases h' : 0 < v <;> simp [h, h']
    exact Int.mul_pos h h'
  · by_cases h : u < 0 <;> by_cases h' : 0 < v <;> simp [h, h']
    exact Int.mul_neg_of_neg_of_pos h h'
  · by_cases h : 0 < u <;> by_cases h' : v < 0 <;> simp [h, h']
    exact Int.mul_neg_of_pos_of_neg h h'
  · by_cases h : u < 0 <;> by_cases h' : v < 0 <;> simp [h, h']
    exact Int.mul_pos_of_neg_of_neg h h'
  · by_cases h : u = 0
    · right; rw [h, Int.zero_mul]
    · left; exact h
  · by_cases h : v = 0
    · right; rw [h, Int.mul_zero]
    · left; exact h
theorem sign_lt {n : Int} : signE n < 0 ↔ n < 0 := by unfold signE; (repeat' split) <;> omega
theorem cross_rel (a b p : Pt) : crossE a b p = (a.x - p.x) * (b.y - p.y) - (a.y - p.y) * (b.x - p.x) := by simp only [crossE]; grind
theorem edge_pos {x1 y1 x2 y2 P Q : Int} (hy : ¬ y2 < y1)
    (s1 : (¬0 < x1 ∨ ¬0 < y2 ∨ 0 < P) ∧ (¬x1 < 0 ∨ ¬0 < y2 ∨ P < 0) ∧ (¬0 < x1 ∨ ¬y2 < 0 ∨ P < 0) ∧ (¬x1 < 0 ∨ ¬y2 < 0 ∨ 0 < P) ∧ (¬x1 = 0 ∨ P = 0) ∧ (¬y2 = 0 ∨ P = 0))
    (s2 : (¬0 < y1 ∨ ¬0 < x2 ∨ 0 < Q) ∧ (¬y1 < 0 ∨ ¬0 < x2 ∨ Q < 0) ∧ (¬0 < y1 ∨ ¬x2 < 0 ∨ Q < 0) ∧ (¬y1 < 0 ∨ ¬x2 < 0 ∨ 0 < Q) ∧ (¬y1 = 0 ∨ Q = 0) ∧ (¬x2 = 0 ∨ Q = 0))
    (h : ¬ (P - Q = 0 ∧ (min x1 x2 ≤ 0 ∧ 0 ≤ max x1 x2) ∧ min y1 y2 ≤ 0 ∧ 0 ≤ max y1 y2)) :
    (¬ ((¬ (x1 ≤ 0 ↔ x2 ≤ 0) ∧ (P - Q < 0 ↔ x1 < x2)) ↔ ((y1 ≤ 0 ∧ 0 < y2) ∧ 0 < P - Q))) ↔ ¬ ((0 < x1 ∧ 0 < y1) ↔ (0 < x2 ∧ 0 < y2)) := by
  by_cases c1 : x1 ≤ 0 <;> by_cases c2 : x2 ≤ 0 <;> by_cases c3 : y1 ≤ 0 <;> by_cases c4 : y2 ≤ 0 <;> simp only [c1, c2, c3, c4, true_and, and_true, false_and, and_false, iff_true, true_iff, iff_false, false_iff, not_true_eq_false, not_false_eq_true] <;> omega
theorem edge_neg {x1 y1 x2 y2 P Q : Int} (hy : y2 < y1)
    (s1 : (¬0 < x1 ∨ ¬0 < y2 ∨ 0 < P) ∧ (¬x1 < 0 ∨ ¬0 < y2 ∨ P < 0) ∧ (¬0 < x1 ∨ ¬y2 < 0 ∨ P < 0) ∧ (¬x1 < 0 ∨ ¬y2 < 0 ∨ 0 < P) ∧ (¬x1 = 0 ∨ P = 0) ∧ (¬y2 = 0 ∨ P = 0))
    (s2 : (¬0 < y1 ∨ ¬0 < x2 ∨ 0 < Q) ∧ (¬y1 < 0 ∨ ¬0 < x2 ∨ Q < 0) ∧ (¬0 < y1 ∨ ¬x2 < 0 ∨ Q < 0) ∧ (¬y1 < 0 ∨ ¬x2 < 0 ∨ 0 < Q) ∧ (¬y1 = 0 ∨ Q = 0) ∧ (¬x2 = 0 ∨ Q = 0))
    (h : ¬ (P - Q = 0 ∧ (min x1 x2 ≤ 0 ∧ 0 ≤ max x1 x2) ∧ min y1 y2 ≤ 0 ∧ 0 ≤ max y1 y2)) :
    (¬ ((¬ (x1 ≤ 0 ↔ x2 ≤ 0) ∧ (P - Q < 0 ↔ x1 < x2)) ↔ ((y2 ≤ 0 ∧ 0 < y1) ∧ 0 < -(P - Q)))) ↔ ¬ ((0 < x1 ∧ 0 < y1) ↔ (0 < x2 ∧ 0 < y2)) := by
  by_cases c1 : x1 ≤ 0 <;> by_cases c2 : x2 ≤ 0 <;> by_cases c3 : y1 ≤ 0 <;> by_cases c4 : y2 ≤ 0 <;> simp only [c1, c2, c3, c4, true_and, and_true, false_and, and_false, iff_true, true_iff, iff_false, false_iff, not_true_eq_false, not_false_eq_true] <;> omega
theorem le0 {u v : Int} : u - v ≤ 0 ↔ u ≤ v := by omega
theorem lt0 {u v : Int} : 0 < u - v ↔ v < u := by omega
theorem ltd {u v w : Int} : u - w < v - w ↔ u < v := by omega
theorem edge_par {a b p : Pt} (h : onE a b p = false) : (upX a b p ^^ rightX a b p) = (quad a p ^^ quad b p) := by
  rw [onE, decide_eq_false_iff_not] at h
  have e1 := cross_rel a b p
  have e2 : crossE b a p = -crossE a b p := by simp only [crossE]; grind
  have s1 := sg (u := a.x - p.x) (v := b.y - p.y)
  have s2 := sg (u := a.y - p.y) (v := b.x - p.x)
  unfold upX rightX quad
  simp only [xor_dec, e2]
  refine decide_eq_decide.2 ?_
  rw [e1] at h ⊢
  generalize (a.x - p.x) * (b.y - p.y) = P at *
  generalize (a.y - p.y) * (b.x - p.x) = Q at *
  by_cases hyy : b.y < a.y
  · have := edge_neg (x1 := a.x - p.x) (y1 := a.y - p.y) (x2 := b.x - p.x) (y2 := b.y - p.y) (P := P) (Q := Q) (by omega) s1 s2 (by omega)
    simp only [if_pos hyy, e2, e1]
    simp only [le0, lt0, ltd] at this
    exact this
  · have := edge_pos (x1 := a.x - p.x) (y1 := a.y - p.y) (x2 := b.x - p.x) (y2 := b.y - p.y) (P := P) (Q := Q) (by omega) s1 s2 (by omega)
    simp only [if_neg hyy, e1]
    simp only [le0, lt0, ltd] at this ⊢
    exact this

def parTo (f : Nat → Bool) : Nat → Bool
  | 0 => false
  | i + 1 => parTo f i ^^ f i
theorem parTo_xor (f g : Nat → Bool) : ∀ n : Nat, (parTo f n ^^ parTo g n) = parTo (fun i => f i ^^ g i) n
  | 0 => rfl
  | n + 1 => by
    simp only [parTo]
    rw [← parTo_xor f g n]
    cases parTo f n <;> cases parTo g n <;> cases f n <;> cases g n <;> rfl
theorem parTo_congr {f g : Nat → Bool} : ∀ {n : Nat}, (∀ i, i < n → f i = g i) → parTo f n = parTo g n
  | 0, _ => rfl
  | n + 1, h => by simp only [parTo]; rw [parTo_congr fun i hi => h i (by omega), h n (by omega)]
theorem parTo_tele (g : Nat → Bool) : ∀ n : Nat, parTo (fun i => g i ^^ g (i + 1)) n = (g 0 ^^ g n)
  | 0 => by simp [parTo]
  | n + 1 => by
    simp only [parTo]
    rw [parTo_tele g n]
    cases g 0 <;> cases g n <;> cases g (n + 1) <;> rfl
def onAny (l : List Pt) (p : Pt) : Bool := (List.range l.length).any fun i => onE (cornerP l i) (cornerP l (i + 1)) p
def oddR (l : List Pt) (p : Pt) (n : Nat) : Bool := parTo (fun i => rightX (cornerP l i) (cornerP l (i + 1)) p) n
def oddU (l : List Pt) (p : Pt) (n : Nat) : Bool := parTo (fun i => upX (cornerP l i) (cornerP l (i + 1)) p) n
theorem onAny_yes {l : List Pt} {p : Pt} {i : Nat} (hi : i < l.length) (h : onE (cornerP l i) (cornerP l (i + 1)) p = true) : onAny l p = true := List.any_eq_true.2 ⟨i, List.mem_range.2 hi, h⟩
theorem onAny_no {l : List Pt} {p : Pt} (h : ∀ i, i < l.length → onE (cornerP l i) (cornerP l (i + 1)) p = false) : onAny l p = false := by
  rw [onAny, List.any_eq_false]
  intro i hi
  rw [h i (List.mem_range.1 hi)]; simp
theorem odd_same {l : List Pt} {p : Pt} (h : onAny l p = false) : oddU l p l.length = oddR l p l.length := by
  have h' : ∀ i, i < l.length → onE (cornerP l i) (cornerP l (i + 1)) p = false := fun i hi => by
    rw [onAny, List.any_eq_false] at h
    simpa using h i (List.mem_range.2 hi)
  have : (oddU l p l.length ^^ oddR l p l.length) = false := by
    unfold oddU oddR
    rw [parTo_xor, parTo_congr (g := fun i => quad (cornerP l i) p ^^ quad (cornerP l (i + 1)) p) fun i hi => edge_par (h' i hi), parTo_tele (fun i => quad (cornerP l i) p)]
    have : cornerP l l.length = cornerP l 0 := by have := corner_per l 0; rwa [Nat.zero_add] at this
    rw [this]; simp
  revert this
  cases oddU l p l.length <;> cases oddR l p l.length <;> simp
/-- 1 inside of a polygon, 0 on its border, -1 outside. -/
def insE (l : List Pt) (p : Pt) : Int := if onAny l p = true then 0 else if oddR l p l.length = true then 1 else -1
end Go.Pv.Geo

open Go Go.Proofs Go.Pv
set_option maxHeartbeats 4000000
set_option maxRecDepth 100000
set_option linter.unusedSimpArgs false
set_option linter.unusedVariables false
namespace Go.Pv.Geo
def sgnB (b : Bool) : Int := if b = true then 1 else -1
theorem sgnB_bd (b : Bool) : -1 ≤ sgnB b ∧ sgnB b ≤ 1 := by unfold sgnB; split <;> omega
theorem sgnB_not (b : Bool) : sgnB (b ^^ true) = 0 - sgnB b := by cases b <;> rfl
theorem insE_on {l : List Pt} {p : Pt} (h : onAny l p = true) : insE l p = 0 := if_pos h
theorem insE_off {l : List Pt} {p : Pt} (h : onAny l p = false) : insE l p = sgnB (oddR l p l.length) := by
  rw [insE, if_neg (by rw [h]; simp)]; rfl
theorem c_inside (l : List Pt) (h0 : 0 < l.length) (hl : l.length < 1000000000000) (hok : ∀ q ∈ l, ptOK q = true) (p : Pt) (hp : ptOK p = true) : Contract Try.prog 98 [.sl (l.map encPt), .agg (encPt p)] (.ret (.int .i64 (insE l p))) := by
  refine contract_of mix Try.func98 rfl rfl (by rw [Try.ntmps98]; exact Nat.le_of_ble_eq_true rfl) ?_; rw [Try.results98, Try.ntmps98]; simp only [argsE, Nat.reduceAdd]
  repeat' first
           | (with_reducible apply go_op)
           | (with_reducible apply go_next)
           | ((with_reducible (show evOp _ _ _ _ _ _)); first
             | ((with_reducible (show evOp _ (.move _) _ _ _ _)) ; first | ((with_reducible apply go_mv_int); rfl; rfl) | ((with_reducible apply go_mv_sl); rfl; rfl))
             | ((with_reducible apply go_as))
             | (((with_reducible apply go_len); rfl; rfl))
             | (((with_reducible apply go_bx_agg); rfl; rfl; (exact Nat.le_of_ble_eq_true rfl); rfl; rfl)))
           | ((with_reducible (show evOps _ _ _ _ _ _)); first
             | (with_reducible apply go_nil))
           | ((with_reducible (show evG _ _ _ _ _)); first
             | (with_reducible apply go_seq)
             | (with_reducible apply go_region)
             | (with_reducible apply go_block))
           | (with_reducible apply go_kseq)
  refine go_count l.length (fun i => ⟨[(11, .int .i64 i), (10, .int .i64 l.length), (9, .sl (l.map encPt)), (0, .sl (l.map encPt)), (5, .int .i64 (sgnB (oddR l p i))), (3, .op 0 0 0)], [(0, ⟨2, true, [encPt p]⟩)], 32, 54⟩) (fun i => ∀ j, j < i → onE (cornerP l j) (cornerP l (j + 1)) p = false) (entails_eq (nx := 32) (k := 0) (ns := []) (ks := [11, 10, 9, 0, 5, 3]) [(0, 0)] rfl (by simp) (by kernel_rfl)) (fun j hj => absurd hj (by omega)) ?_
  intro i hi hC
  have hin := sgnB_bd (oddR l p i)
  by_cases hlt : i < l.length
  · have ec := cornerP_lt hlt
    have hoa : ptOK l[i] = true := hok _ (List.getElem_mem hlt)
    have hob : ptOK (cornerP l (i + 1)) = true := hok _ (cornerP_mem h0 _)
    have h188 : Contract Try.prog 89 [.sl (l.map encPt), .int .i64 ((i : Int) + 1)] (.ret (.agg (encPt (cornerP l (i + 1))))) := c_corner l h0 hl (i + 1)
    have h189 := c_on l[i] (cornerP l (i + 1)) p hoa hob hp
    have hx1 := c_cross l[i] (cornerP l (i + 1)) p hoa hob hp
    have hx2 := c_cross (cornerP l (i + 1)) l[i] p hob hoa hp
    have hnx : sgnB (oddR l p (i + 1)) = sgnB (oddR l p i ^^ rightX (cornerP l i) (cornerP l (i + 1)) p) := rfl
    have hCon : onE (cornerP l i) (cornerP l (i + 1)) p = false → ∀ j, j < i + 1 → onE (cornerP l j) (cornerP l (j + 1)) p = false := fun h j hj => by
      rcases Nat.lt_succ_iff_lt_or_eq.1 hj with h' | rfl
      · exact hC j h'
      · exact h
    rw [ec] at hnx hCon
    have hres : onE l[i] (cornerP l (i + 1)) p = true → insE l p = 0 := fun h => insE_on (onAny_yes hlt (by rw [ec]; exact h))
    clear hok h0
    generalize cornerP l (i + 1) = b at *
    have hno : rightX l[i] b p = false → sgnB (oddR l p (i + 1)) = sgnB (oddR l p i) := fun h => by rw [hnx, h, Bool.xor_false]
    have hyes : rightX l[i] b p = true → sgnB (oddR l p (i + 1)) = 0 - sgnB (oddR l p i) := fun h => by rw [hnx, h, sgnB_not]
    by_cases hsw : b.y < l[i].y
    · have hr : rightX l[i] b p = decide ((b.y ≤ p.y ∧ p.y < l[i].y) ∧ 0 < crossE b l[i] p) := by simp only [rightX, if_pos hsw]
      rw [hr] at hno hyes
      repeat' first
           | (with_reducible apply go_op)
           | (with_reducible apply go_next)
           | ((with_reducible (show evOp _ _ _ _ _ _)); first
             | ((with_reducible (show evOp _ (.move _) _ _ _ _)) ; first | ((with_reducible apply go_mv_int); rfl; rfl) | ((with_reducible apply go_mv_bool); rfl; rfl) | ((with_reducible apply go_mv_sl); rfl; rfl))
             | ((with_reducible apply go_as))
             | ((with_reducible (show evOp _ (.load _ _) _ _ _ _)) ; first | ((with_reducible apply go_ld_ptr); rfl; rfl; rfl) | ((with_reducible apply go_ld_agg); rfl; rfl; rfl; rfl) | ((with_reducible apply go_load_own); rfl; rfl; rfl; rfl))
             | (((with_reducible apply go_fieldAddr_own); rfl; rfl; rfl))
             | (((with_reducible apply go_index_nat); rfl; rfl; (with_reducible rfl); (intro; rfl); rfl; omega; (intro hlt)))
             | ((with_reducible (show evOp _ (.binOp _ _ _ _ _) _ _ _ _)) ; first | ((with_reducible apply go_cmp); rfl; rfl; rfl; rfl) | ((with_reducible apply go_add); rfl; rfl; rfl; omega))
             | ((with_reducible (show evOp _ (.call _) _ _ _ _)) ; first | ((with_reducible apply go_fn_plain); rfl; (exact h188); rfl; (exact Nat.le_of_ble_eq_true rfl); rfl) | ((with_reducible apply go_fn_bool); rfl; (exact h189); rfl) | ((with_reducible apply go_fn_int); rfl; (exact hx2); rfl))
             | (((with_reducible apply go_st_agg); rfl; rfl; rfl; rfl; rfl; rfl; rfl))
             | (((with_reducible apply go_neg); rfl; rfl; omega))
             | (((with_reducible apply go_pick); rfl; rfl; rfl))
             | (((with_reducible apply go_alloc); rfl; rfl; rfl)))
           | ((with_reducible (show evOps _ _ _ _ _ _)); first
             | (with_reducible apply go_nil)
             | ((with_reducible apply go_run); rfl; rfl)
             | ((with_reducible apply go_pass); rfl; rfl; rfl)
             | (((with_reducible apply go_guard); rfl) <;> (intro h; simp only [h, Bool.not_true, Bool.not_false]; (try with_reducible (refine ⟨rfl, ?_⟩)); try simp only [decide_eq_true_eq, decide_eq_false_iff_not, Bool.not_eq_true', Bool.not_eq_false', Bool.not_true, Bool.not_false] at h; try exact absurd trivial h)))
           | ((with_reducible (show evG _ _ _ _ _)); first
             | (with_reducible apply go_seq)
             | (with_reducible apply go_region)
             | ((with_reducible apply go_cond_f); rfl; rfl)
             | (((with_reducible apply go_cond); rfl) <;> (intro h; simp only [h]; try simp only [decide_eq_true_eq, decide_eq_false_iff_not, Bool.not_eq_true', Bool.not_eq_false', Bool.not_true, Bool.not_false] at h; try exact absurd trivial h))
             | (with_reducible apply go_ret)
             | (with_reducible apply go_skipc)
             | (with_reducible apply go_block)
             | (with_reducible apply go_exit))
           | (with_reducible apply go_kseq)
           | (with_reducible apply go_kseq_ret)
           | (with_reducible apply go_kblock)
           | (with_reducible apply go_kblock_ret)
           | (with_reducible apply go_kblock_exit)
           | (with_reducible apply go_kseq_exit)
           | ((with_reducible apply end_int); rfl)
      all_goals try exact absurd hlt (by omega)
      all_goals first
        | exact (hres (by assumption)).symm
        | (refine ⟨by omega, hCon (by assumption), ?_⟩; rw [hno (decide_eq_false (by omega))]; exact entails_eq (nx := 32) (k := 0) (ns := []) (ks := [11, 10, 9, 0, 5, 3]) [(0, 0)] rfl (by simp) (by kernel_rfl))
        | (refine ⟨by omega, hCon (by assumption), ?_⟩; rw [hyes (decide_eq_true (by omega))]; exact entails_eq (nx := 32) (k := 0) (ns := []) (ks := [11, 10, 9, 0, 5, 3]) [(0, 0)] rfl (by simp) (by kernel_rfl))
        | trace_state
    · have hr : rightX l[i] b p = decide ((l[i].y ≤ p.y ∧ p.y < b.y) ∧ 0 < crossE l[i] b p) := by simp only [rightX, if_neg hsw]
      rw [hr] at hno hyes
      repeat' first
           | (with_reducible apply go_op)
           | (with_reducible apply go_next)
           | ((with_reducible (show evOp _ _ _ _ _ _)); first
             | ((with_reducible (show evOp _ (.move _) _ _ _ _)) ; first | ((with_reducible apply go_mv_int); rfl; rfl) | ((with_reducible apply go_mv_bool); rfl; rfl) | ((with_reducible apply go_mv_sl); rfl; rfl))
             | ((with_reducible apply go_as))
             | ((with_reducible (show evOp _ (.load _ _) _ _ _ _)) ; first | ((with_reducible apply go_ld_ptr); rfl; rfl; rfl) | ((with_reducible apply go_ld_agg); rfl; rfl; rfl; rfl) | ((with_reducible apply go_load_own); rfl; rfl; rfl; rfl))
             | (((with_reducible apply go_fieldAddr_own); rfl; rfl; rfl))
             | (((with_reducible apply go_index_nat); rfl; rfl; (with_reducible rfl); (intro; rfl); rfl; omega; (intro hlt)))
             | ((with_reducible (show evOp _ (.binOp _ _ _ _ _) _ _ _ _)) ; first | ((with_reducible apply go_cmp); rfl; rfl; rfl; rfl) | ((with_reducible apply go_add); rfl; rfl; rfl; omega))
             | ((with_reducible (show evOp _ (.call _) _ _ _ _)) ; first | ((with_reducible apply go_fn_plain); rfl; (exact h188); rfl; (exact Nat.le_of_ble_eq_true rfl); rfl) | ((with_reducible apply go_fn_bool); rfl; (exact h189); rfl) | ((with_reducible apply go_fn_int); rfl; (exact hx1); rfl))
             | (((with_reducible apply go_st_agg); rfl; rfl; rfl; rfl; rfl; rfl; rfl))
             | (((with_reducible apply go_neg); rfl; rfl; omega))
             | (((with_reducible apply go_pick); rfl; rfl; rfl))
             | (((with_reducible apply go_alloc); rfl; rfl; rfl)))
           | ((with_reducible (show evOps _ _ _ _ _ _)); first
             | (with_reducible apply go_nil)
             | ((with_reducible apply go_run); rfl; rfl)
             | ((with_reducible apply go_pass); rfl; rfl; rfl)
             | (((with_reducible apply go_guard); rfl) <;> (intro h; simp only [h, Bool.not_true, Bool.not_false]; (try with_reducible (refine ⟨rfl, ?_⟩)); try simp only [decide_eq_true_eq, decide_eq_false_iff_not, Bool.not_eq_true', Bool.not_eq_false', Bool.not_true, Bool.not_false] at h; try exact absurd trivial h)))
           | ((with_reducible (show evG _ _ _ _ _)); first
             | (with_reducible apply go_seq)
             | (with_reducible apply go_region)
             | ((with_reducible apply go_cond_f); rfl; rfl)
             | (((with_reducible apply go_cond); rfl) <;> (intro h; simp only [h]; try simp only [decide_eq_true_eq, decide_eq_false_iff_not, Bool.not_eq_true', Bool.not_eq_false', Bool.not_true, Bool.not_false] at h; try exact absurd trivial h))
             | (with_reducible apply go_ret)
             | (with_reducible apply go_skipc)
             | (with_reducible apply go_block)
             | (with_reducible apply go_exit))
           | (with_reducible apply go_kseq)
           | (with_reducible apply go_kseq_ret)
           | (with_reducible apply go_kblock)
           | (with_reducible apply go_kblock_ret)
           | (with_reducible apply go_kblock_exit)
           | (with_reducible apply go_kseq_exit)
           | ((with_reducible apply end_int); rfl)
      all_goals try exact absurd hlt (by omega)
      all_goals first
        | exact (hres (by assumption)).symm
        | (refine ⟨by omega, hCon (by assumption), ?_⟩; rw [hno (decide_eq_false (by omega))]; exact entails_eq (nx := 32) (k := 0) (ns := []) (ks := [11, 10, 9, 0, 5, 3]) [(0, 0)] rfl (by simp) (by kernel_rfl))
        | (refine ⟨by omega, hCon (by assumption), ?_⟩; rw [hyes (decide_eq_true (by omega))]; exact entails_eq (nx := 32) (k := 0) (ns := []) (ks := [11, 10, 9, 0, 5, 3]) [(0, 0)] rfl (by simp) (by kernel_rfl))
        | trace_state
  · have e : i = l.length := by omega
    rw [insE_off (onAny_no fun j hj => hC j (by omega))]
    repeat' first
           | (with_reducible apply go_op)
           | (with_reducible apply go_next)
           | ((with_reducible (show evOp _ _ _ _ _ _)); first
             | ((with_reducible (show evOp _ (.move _) _ _ _ _)) ; first | ((with_reducible apply go_mv_int); rfl; rfl) | ((with_reducible apply go_mv_sl); rfl; rfl))
             | ((with_reducible apply go_as))
             | (((with_reducible apply go_ld_ptr); rfl; rfl; rfl))
             | (((with_reducible apply go_index_nat); rfl; rfl; (with_reducible rfl); (intro; rfl); rfl; omega; (intro hlt)))
             | ((with_reducible (show evOp _ (.binOp _ _ _ _ _) _ _ _ _)) ; first | ((with_reducible apply go_cmp); rfl; rfl; rfl; rfl) | ((with_reducible apply go_add); rfl; rfl; rfl; omega))
             | (((with_reducible apply go_st_agg); rfl; rfl; rfl; rfl; rfl; rfl; rfl))
             | (((with_reducible apply go_alloc); rfl; rfl; rfl)))
           | ((with_reducible (show evOps _ _ _ _ _ _)); first
             | (with_reducible apply go_nil))
           | ((with_reducible (show evG _ _ _ _ _)); first
             | (with_reducible apply go_seq)
             | (with_reducible apply go_region)
             | (((with_reducible apply go_cond); rfl) <;> (intro h; simp only [h]; try simp only [decide_eq_true_eq, decide_eq_false_iff_not, Bool.not_eq_true', Bool.not_eq_false', Bool.not_true, Bool.not_false] at h; try exact absurd trivial h))
             | (with_reducible apply go_ret)
             | (with_reducible apply go_skipc)
             | (with_reducible apply go_block)
             | (with_reducible apply go_exit))
           | (with_reducible apply go_kseq)
           | (with_reducible apply go_kblock_exit)
           | (with_reducible apply go_kseq_exit)
           | ((with_reducible apply end_int); rfl)
    all_goals first
      | exact absurd hlt (by omega)
      | (rw [← e])
      | trace_state
theorem insE_up {l : List Pt} {p : Pt} (h : onAny l p = false) : insE l p = sgnB (oddU l p l.length) := by rw [insE_off h, odd_same h]
theorem bxor {A B : Prop} [Decidable A] [Decidable B] : (decide A == decide B) = decide (A ↔ B) := by by_cases h : A <;> by_cases h' : B <;> simp [h, h']
theorem c_rInside (l : List Pt) (h0 : 0 < l.length) (hl : l.length < 1000000000000) (hok : ∀ q ∈ l, ptOK q = true) (p : Pt) (hp : ptOK p = true) : Contract Try.prog 70 [.sl (l.map encPt), .agg (encPt p)] (.ret (.int .i64 (insE l p))) := by
  refine contract_of mix Try.func70 rfl rfl (by rw [Try.ntmps70]; exact Nat.le_of_ble_eq_true rfl) ?_; rw [Try.results70, Try.ntmps70]; simp only [argsE, Nat.reduceAdd]
  repeat' first
           | (with_reducible apply go_op)
           | (with_reducible apply go_next)
           | ((with_reducible (show evOp _ _ _ _ _ _)); first
             | ((with_reducible (show evOp _ (.move _) _ _ _ _)) ; first | ((with_reducible apply go_mv_int); rfl; rfl) | ((with_reducible apply go_mv_bool); rfl; rfl))
             | ((with_reducible apply go_as))
             | (((with_reducible apply go_bx_agg); rfl; rfl; (exact Nat.le_of_ble_eq_true rfl); rfl; rfl)))
           | ((with_reducible (show evOps _ _ _ _ _ _)); first
             | (with_reducible apply go_nil))
           | ((with_reducible (show evG _ _ _ _ _)); first
             | (with_reducible apply go_seq)
             | (with_reducible apply go_region)
             | (with_reducible apply go_block))
           | (with_reducible apply go_kseq)
  refine go_count l.length (fun i => ⟨[(6, .int .i64 i), (0, .sl (l.map encPt)), (5, .bool (oddU l p i)), (3, .op 0 0 0)], [(0, ⟨2, true, [encPt p]⟩)], 32, 53⟩) (fun i => ∀ j, j < i → onE (cornerP l j) (cornerP l (j + 1)) p = false) (entails_eq (nx := 32) (k := 0) (ns := []) (ks := [6, 0, 5, 3]) [(0, 0)] rfl (by simp) (by kernel_rfl)) (fun j hj => absurd hj (by omega)) ?_
  intro i hi hC
  by_cases hlt : i < l.length
  · have hoa : ptOK (cornerP l i) = true := hok _ (cornerP_mem h0 _)
    have hob : ptOK (cornerP l (i + 1)) = true := hok _ (cornerP_mem h0 _)
    have k0 := c_rcorner l h0 hl i
    have k1 : Contract Try.prog 90 [.sl (l.map encPt), .int .i64 ((i : Int) + 1)] (.ret (.agg (encPt (cornerP l (i + 1))))) := c_rcorner l h0 hl (i + 1)
    have hb := c_rbetween (cornerP l i) (cornerP l (i + 1)) p hoa hob hp
    have ho := c_rorient (cornerP l i) (cornerP l (i + 1)) p hoa hob hp
    have hnx : oddU l p (i + 1) = (oddU l p i ^^ upX (cornerP l i) (cornerP l (i + 1)) p) := rfl
    have hCon : onE (cornerP l i) (cornerP l (i + 1)) p = false → ∀ j, j < i + 1 → onE (cornerP l j) (cornerP l (j + 1)) p = false := fun h j hj => by
      rcases Nat.lt_succ_iff_lt_or_eq.1 hj with h' | rfl
      · exact hC j h'
      · exact h
    have hres : onE (cornerP l i) (cornerP l (i + 1)) p = true → insE l p = 0 := fun h => insE_on (onAny_yes hlt h)
    clear hok h0
    generalize cornerP l (i + 1) = b at *
    generalize cornerP l i = a at *
    have hno : upX a b p = false → oddU l p (i + 1) = oddU l p i := fun h => by rw [hnx, h, Bool.xor_false]
    have hyes : upX a b p = true → oddU l p (i + 1) = !oddU l p i := fun h => by rw [hnx, h, Bool.xor_true]
    have hsl := sign_lt (n := crossE a b p)
    unfold upX at hno hyes
    repeat' first
           | (with_reducible apply go_op)
           | (with_reducible apply go_next)
           | ((with_reducible (show evOp _ _ _ _ _ _)); first
             | ((with_reducible (show evOp _ (.move _) _ _ _ _)) ; first | ((with_reducible apply go_mv_int); rfl; rfl) | ((with_reducible apply go_mv_bool); rfl; rfl) | ((with_reducible apply go_mv_sl); rfl; rfl))
             | ((with_reducible apply go_as))
             | ((with_reducible (show evOp _ (.load _ _) _ _ _ _)) ; first | ((with_reducible apply go_ld_agg); rfl; rfl; rfl; rfl) | ((with_reducible apply go_load_own); rfl; rfl; rfl; rfl))
             | (((with_reducible apply go_fieldAddr_own); rfl; rfl; rfl))
             | ((with_reducible (show evOp _ (.binOp _ _ _ _ _) _ _ _ _)) ; first | ((with_reducible apply go_cmp); rfl; rfl; rfl; rfl) | ((with_reducible apply go_add); rfl; rfl; rfl; omega) | ((with_reducible apply go_bin); rfl; rfl))
             | ((with_reducible (show evOp _ (.call _) _ _ _ _)) ; first | ((with_reducible apply go_len); rfl; rfl) | ((with_reducible apply go_fn_plain); rfl; (exact k0); rfl; (exact Nat.le_of_ble_eq_true rfl); rfl) | ((with_reducible apply go_fn_plain); rfl; (exact k1); rfl; (exact Nat.le_of_ble_eq_true rfl); rfl) | ((with_reducible apply go_fn_bool); rfl; (exact hb); rfl) | ((with_reducible apply go_fn_int); rfl; (exact ho); rfl))
             | (((with_reducible apply go_st_agg); rfl; rfl; rfl; rfl; rfl; rfl; rfl))
             | (((with_reducible apply go_not); rfl; rfl))
             | (((with_reducible apply go_pick); rfl; rfl; rfl))
             | (((with_reducible apply go_alloc); rfl; rfl; rfl)))
           | ((with_reducible (show evOps _ _ _ _ _ _)); first
             | (with_reducible apply go_nil)
             | ((with_reducible apply go_run); rfl; rfl)
             | ((with_reducible apply go_pass); rfl; rfl; rfl)
             | (((with_reducible apply go_guard); rfl) <;> (intro h; simp only [h, Bool.not_true, Bool.not_false]; (try with_reducible (refine ⟨rfl, ?_⟩)); try simp only [decide_eq_true_eq, decide_eq_false_iff_not, Bool.not_eq_true', Bool.not_eq_false', Bool.not_true, Bool.not_false] at h; try exact absurd trivial h))
             | ((with_reducible apply go_pre); rfl)
             | (with_reducible apply go_pre_nil)
             | ((with_reducible apply go_suf); rfl)
             | (with_reducible apply go_suf_nil))
           | ((with_reducible (show evG _ _ _ _ _)); first
             | (with_reducible apply go_seq)
             | (with_reducible apply go_region)
             | ((with_reducible apply go_cond_f); rfl; rfl)
             | (((with_reducible apply go_cond); rfl) <;> (intro h; simp only [h]; try simp only [decide_eq_true_eq, decide_eq_false_iff_not, Bool.not_eq_true', Bool.not_eq_false', Bool.not_true, Bool.not_false] at h; try exact absurd trivial h))
             | ((with_reducible apply go_order); kernel_rfl; rfl)
             | (with_reducible apply go_ret)
             | (with_reducible apply go_skipc)
             | (with_reducible apply go_block)
             | (with_reducible apply go_exit))
           | (with_reducible apply go_kseq)
           | (with_reducible apply go_ksuf)
           | (with_reducible apply go_kseq_ret)
           | (with_reducible apply go_kblock)
           | (with_reducible apply go_kblock_ret)
           | (with_reducible apply go_kblock_exit)
           | (with_reducible apply go_kseq_exit)
           | ((with_reducible apply end_int); rfl)
    all_goals try exact absurd hlt (by omega)
    all_goals first
      | exact (hres (by assumption)).symm
      | (have q1 := decide_eq_false_iff_not.1 (bxor.symm.trans ‹(decide (a.x ≤ p.x) == decide (b.x ≤ p.x)) = false›)
         have q2 := of_decide_eq_true (bxor.symm.trans ‹(decide (signE (crossE a b p) < 0) == decide (a.x < b.x)) = true›)
         rw [hsl] at q2
         refine ⟨by omega, hCon (by assumption), ?_⟩; rw [hyes (decide_eq_true ⟨q1, q2⟩)]; exact entails_eq (nx := 32) (k := 0) (ns := []) (ks := [6, 0, 5, 3]) [(0, 0)] rfl (by simp) (by kernel_rfl))
      | (have q2 := decide_eq_false_iff_not.1 (bxor.symm.trans ‹(decide (signE (crossE a b p) < 0) == decide (a.x < b.x)) = false›)
         rw [hsl] at q2
         refine ⟨by omega, hCon (by assumption), ?_⟩; rw [hno (decide_eq_false fun q => q2 q.2)]; exact entails_eq (nx := 32) (k := 0) (ns := []) (ks := [6, 0, 5, 3]) [(0, 0)] rfl (by simp) (by kernel_rfl))
      | (have q1 := of_decide_eq_true (bxor.symm.trans ‹(decide (a.x ≤ p.x) == decide (b.x ≤ p.x)) = true›)
         refine ⟨by omega, hCon (by assumption), ?_⟩; rw [hno (decide_eq_false fun q => q.1 q1)]; exact entails_eq (nx := 32) (k := 0) (ns := []) (ks := [6, 0, 5, 3]) [(0, 0)] rfl (by simp) (by kernel_rfl))
      | trace_state
  · have e : i = l.length := by omega
    rw [insE_up (onAny_no fun j hj => hC j (by omega))]
    subst e
    repeat' first
           | (with_reducible apply go_op)
           | (with_reducible apply go_next)
           | ((with_reducible (show evOp _ _ _ _ _ _)); first
             | ((with_reducible (show evOp _ (.move _) _ _ _ _)) ; first | ((with_reducible apply go_mv_int); rfl; rfl) | ((with_reducible apply go_mv_bool); rfl; rfl) | ((with_reducible apply go_mv_sl); rfl; rfl))
             | ((with_reducible apply go_as))
             | (((with_reducible apply go_cmp); rfl; rfl; rfl; rfl))
             | (((with_reducible apply go_len); rfl; rfl)))
           | ((with_reducible (show evOps _ _ _ _ _ _)); first
             | (with_reducible apply go_nil))
           | ((with_reducible (show evG _ _ _ _ _)); first
             | (with_reducible apply go_seq)
             | (with_reducible apply go_region)
             | (((with_reducible apply go_cond); rfl) <;> (intro h; simp only [h]; try simp only [decide_eq_true_eq, decide_eq_false_iff_not, Bool.not_eq_true', Bool.not_eq_false', Bool.not_true, Bool.not_false] at h; try exact absurd trivial h))
             | (with_reducible apply go_ret)
             | (with_reducible apply go_skipc)
             | (with_reducible apply go_block)
             | (with_reducible apply go_exit))
           | (with_reducible apply go_kseq)
           | (with_reducible apply go_kseq_ret)
           | (with_reducible apply go_kblock_exit)
           | (with_reducible apply go_kseq_exit)
           | ((with_reducible apply end_int); rfl)
    all_goals first
      | exact absurd hlt (by omega)
      | rfl
      | trace_state
/-- What Inside answers. -/
def insX (l : List Pt) (p : Pt) : Int × Int := if polyE l ≠ 0 then (0, polyE l) else if ptOK p = false then (0, 2) else (insE l p, 0)
theorem c_Inside (l : List Pt) (p : Pt) : Contract Try.prog 56 [.sl (l.map encPt), .agg (encPt p)] (.ret (.tup [.int .i64 (insX l p).1, .int .i64 (insX l p).2])) := by
  have hC := c_CheckPolygon l
  have ho := c_outside_1 p
  by_cases hz : polyE l = 0
  rotate_left
  · have e : insX l p = (0, polyE l) := if_pos hz
    rw [e]
    refine contract_of mix Try.func56 rfl rfl (by rw [Try.ntmps56]; exact Nat.le_of_ble_eq_true rfl) ?_; rw [Try.results56, Try.ntmps56]; simp only [argsE, Nat.reduceAdd]
    repeat' first
           | (with_reducible apply go_op)
           | (with_reducible apply go_next)
           | ((with_reducible (show evOp _ _ _ _ _ _)); first
             | ((with_reducible (show evOp _ (.move _) _ _ _ _)) ; first | ((with_reducible apply go_mv_int); rfl; rfl) | ((with_reducible apply go_mv_sl); rfl; rfl))
             | ((with_reducible apply go_as))
             | (((with_reducible apply go_ld_agg); rfl; rfl; rfl; rfl))
             | (((with_reducible apply go_cmp); rfl; rfl; rfl; rfl))
             | (((with_reducible apply go_fn_int); rfl; (exact hC); rfl))
             | (((with_reducible apply go_bx_agg); rfl; rfl; (exact Nat.le_of_ble_eq_true rfl); rfl; rfl))
             | (((with_reducible apply go_bs1_agg); rfl; rfl; rfl; rfl; rfl; rfl)))
           | ((with_reducible (show evOps _ _ _ _ _ _)); first
             | (with_reducible apply go_nil))
           | ((with_reducible (show evG _ _ _ _ _)); first
             | (with_reducible apply go_seq)
             | (with_reducible apply go_region)
             | (((with_reducible apply go_cond); rfl) <;> (intro h; simp only [h]; try simp only [decide_eq_true_eq, decide_eq_false_iff_not, Bool.not_eq_true', Bool.not_eq_false', Bool.not_true, Bool.not_false] at h; try exact absurd trivial h))
             | (with_reducible apply go_ret)
             | (with_reducible apply go_skipc))
           | (with_reducible apply go_kseq)
           | (with_reducible apply go_kseq_ret)
           | ((with_reducible apply end_t2); rfl; rfl; rfl; rfl)
    all_goals first | rfl | (exfalso; omega)
  obtain ⟨⟨h3, h40⟩, hok, -⟩ := poly_ok hz
  cases hp : ptOK p
  · have e : insX l p = (0, 2) := by rw [insX, if_neg (by omega), if_pos hp]
    rw [e]
    rw [hz] at hC
    rw [hp] at ho
    refine contract_of mix Try.func56 rfl rfl (by rw [Try.ntmps56]; exact Nat.le_of_ble_eq_true rfl) ?_; rw [Try.results56, Try.ntmps56]; simp only [argsE, Nat.reduceAdd]
    repeat' first
           | (with_reducible apply go_op)
           | (with_reducible apply go_next)
           | ((with_reducible (show evOp _ _ _ _ _ _)); first
             | ((with_reducible (show evOp _ (.move _) _ _ _ _)) ; first | ((with_reducible apply go_mv_int); rfl; rfl) | ((with_reducible apply go_mv_sl); rfl; rfl))
             | ((with_reducible apply go_as))
             | (((with_reducible apply go_ld_agg); rfl; rfl; rfl; rfl))
             | (((with_reducible apply go_cmp); rfl; rfl; rfl; rfl))
             | ((with_reducible (show evOp _ (.call _) _ _ _ _)) ; first | ((with_reducible apply go_fn_int); rfl; (exact hC); rfl) | ((with_reducible apply go_fn_bool); (exact purL_os rfl (by simp) rfl); (exact ho); rfl))
             | (((with_reducible apply go_bx_agg); rfl; rfl; (exact Nat.le_of_ble_eq_true rfl); rfl; rfl))
             | (((with_reducible apply go_bs1_agg); rfl; rfl; rfl; rfl; rfl; rfl)))
           | ((with_reducible (show evOps _ _ _ _ _ _)); first
             | (with_reducible apply go_nil))
           | ((with_reducible (show evG _ _ _ _ _)); first
             | (with_reducible apply go_seq)
             | (with_reducible apply go_region)
             | ((with_reducible apply go_cond_t); rfl; rfl)
             | ((with_reducible apply go_cond_f); rfl; rfl)
             | (with_reducible apply go_ret)
             | (with_reducible apply go_skipc))
           | (with_reducible apply go_kseq)
           | (with_reducible apply go_kseq_ret)
           | ((with_reducible apply end_t2); rfl; rfl; rfl; rfl)
    all_goals first | rfl | (exfalso; omega)
  · have e : insX l p = (insE l p, 0) := by rw [insX, if_neg (by omega), if_neg (by rw [hp]; simp)]
    rw [e]
    rw [hz] at hC
    rw [hp] at ho
    have hi := c_inside l (by omega) (by omega) hok p hp
    refine contract_of mix Try.func56 rfl rfl (by rw [Try.ntmps56]; exact Nat.le_of_ble_eq_true rfl) ?_; rw [Try.results56, Try.ntmps56]; simp only [argsE, Nat.reduceAdd]
    repeat' first
           | (with_reducible apply go_op)
           | (with_reducible apply go_next)
           | ((with_reducible (show evOp _ _ _ _ _ _)); first
             | ((with_reducible (show evOp _ (.move _) _ _ _ _)) ; first | ((with_reducible apply go_mv_int); rfl; rfl) | ((with_reducible apply go_mv_sl); rfl; rfl))
             | ((with_reducible apply go_as))
             | (((with_reducible apply go_ld_agg); rfl; rfl; rfl; rfl))
             | (((with_reducible apply go_cmp); rfl; rfl; rfl; rfl))
             | ((with_reducible (show evOp _ (.call _) _ _ _ _)) ; first | ((with_reducible apply go_fn_int); rfl; (exact hC); rfl) | ((with_reducible apply go_fn_bool); (exact purL_os rfl (by simp) rfl); (exact ho); rfl) | ((with_reducible apply go_fn_int); rfl; (exact hi); rfl))
             | (((with_reducible apply go_bx_agg); rfl; rfl; (exact Nat.le_of_ble_eq_true rfl); rfl; rfl))
             | (((with_reducible apply go_bs1_agg); rfl; rfl; rfl; rfl; rfl; rfl)))
           | ((with_reducible (show evOps _ _ _ _ _ _)); first
             | (with_reducible apply go_nil))
           | ((with_reducible (show evG _ _ _ _ _)); first
             | (with_reducible apply go_seq)
             | (with_reducible apply go_region)
             | ((with_reducible apply go_cond_f); rfl; rfl)
             | (with_reducible apply go_ret)
             | (with_reducible apply go_skipc))
           | (with_reducible apply go_kseq)
           | ((with_reducible apply end_t2); rfl; rfl; rfl; rfl)
    all_goals first | rfl | (exfalso; omega)
end Go.Pv.Geo

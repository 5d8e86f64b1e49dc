/-
  Plain arithmetic of numbers written as lists of digits, the lowest first: values, bounds, comparison. No program in sight. Short words for printed walks: a step of a region, a fact carried on to a later world, each with the script that shows it. Plain: what the printed functions over limbs (base 2^32) come to, as numbers.
-/
import Derived.RowKit
import Derived.Test.YtknklchmpohjfaaQRModelClosedWMore
import Derived.Test.YtknklchmpohjfaaQRModelClosedWTab
import Derived.Test.YtknklchmpohjfaaQRModelClosedWRepsOne
import Derived.Test.YtknklchmpohjfaaProg
import Derived.Below
import Derived.Tactics
import Derived.WalkKit
import Derived.KernelRfl
import Derived.RowKit3
import Derived.Deep.QuietTactic
import Derived.WideLaws
import Derived.Deep.Draws
import Derived.Deep.AppendLies
import Derived.Maps.AppendAt
import Derived.OwnWalk
import Derived.Laws.BytesArg
import Derived.Laws.MakeOwn
import Derived.Laws.OwnMore
import Derived.Deep.OwnRows
import Derived.Lib.ConvBytes
import Derived.Laws.Slices
import Derived.Deep.LoopGhost
import Derived.BigQuiet
import Derived.Deep.DeepCutAuto
import Derived.Deep.CutBlock
import Derived.Deep.RegionHeld3
import Derived.Laws.Rows
import Derived.Lib.AppendStr
import Derived.ArgAppend
import Derived.Laws.IdiomCopy
import Derived.OrdersHeld
import Derived.Laws.BitsLemmas
import Derived.WalkMore
import Derived.Test.YtknklchmpohjfaaQRModelClosedWWords
import Derived.Test.YtknklchmpohjfaaQRModelClosedWLast
import Derived.Test.YtknklchmpohjfaaQRModelClosedWQPut
import Derived.Test.YtknklchmpohjfaaQRModelClosedWApart
import Derived.Test.YtknklchmpohjfaaQRModelClosedWArr
import Derived.Test.YtknklchmpohjfaaQRModelClosedWZeros
import Derived.Test.YtknklchmpohjfaaQRModelClosedWFoot
import Derived.Test.YtknklchmpohjfaaQRModelClosedWKept
import Derived.Test.YtknklchmpohjfaaQRModelClosedWShare
import Derived.Test.YtknklchmpohjfaaQRModelClosedWN
import Derived.Test.YtknklchmpohjfaaQRModelClosedWFootNe
import Derived.Test.YtknklchmpohjfaaQRModelClosedWAt
import Derived.Test.YtknklchmpohjfaaQRModelClosedWEqStruct
import Derived.Test.YtknklchmpohjfaaQRModelClosedWNEv
namespace Go.Proofs.Ytknklchmpohjfaa.Ml
def dv (B : Int) : List Int → Int
 | [] => 0
 | x :: l => x + B * dv B l
def pw (B : Int) : Nat → Int
 | 0 => 1
 | n + 1 => pw B n * B
theorem pw_succ (B : Int) (n : Nat) : pw B (n + 1) = pw B n * B := rfl
def Dg (B : Int) (l : List Int) : Prop := ∀ x ∈ l, 0 ≤ x ∧ x < B
def Top (l : List Int) : Prop := ∀ h : l ≠ [], l.getLast h ≠ 0
structure Cn (B : Int) (l : List Int) : Prop where
 dg : Dg B l
 top : Top l
theorem Dg.nil (B : Int) : Dg B [] := by simp [Dg]
theorem Dg.cons {B x : Int} {l : List Int} (h0 : 0 ≤ x) (h1 : x < B) (h : Dg B l) : Dg B (x :: l) := by
 intro y hy
 rcases List.mem_cons.1 hy with rfl | hy
 ·exact ⟨h0, h1⟩
 ·exact h y hy
theorem Dg.tail {B x : Int} {l : List Int} (h : Dg B (x :: l)) : Dg B l := fun y hy => h y (List.mem_cons_of_mem _ hy)
theorem Dg.head {B x : Int} {l : List Int} (h : Dg B (x :: l)) : 0 ≤ x ∧ x < B := h x List.mem_cons_self
theorem Dg.append {B : Int} {a b : List Int} (ha : Dg B a) (hb : Dg B b) : Dg B (a ++ b) := fun y hy => by
 rcases List.mem_append.1 hy with h | h
 ·exact ha y h
 ·exact hb y h
theorem Dg.left {B : Int} {a b : List Int} (h : Dg B (a ++ b)) : Dg B a := fun y hy => h y (List.mem_append_left _ hy)
theorem Dg.right {B : Int} {a b : List Int} (h : Dg B (a ++ b)) : Dg B b := fun y hy => h y (List.mem_append_right _ hy)
theorem Dg.take {B : Int} {a : List Int} (h : Dg B a) (n : Nat) : Dg B (a.take n) := fun y hy => h y (List.mem_of_mem_take hy)
theorem Dg.drop {B : Int} {a : List Int} (h : Dg B a) (n : Nat) : Dg B (a.drop n) := fun y hy => h y (List.mem_of_mem_drop hy)
theorem Dg.set {B : Int} {a : List Int} (h : Dg B a) (i : Nat) {v : Int} (h0 : 0 ≤ v) (h1 : v < B) : Dg B (a.set i v) := fun y hy => by
 rcases List.mem_or_eq_of_mem_set hy with h' | rfl
 ·exact h y h'
 ·exact ⟨h0, h1⟩
theorem Dg.getD {B : Int} {a : List Int} (h : Dg B a) (hB : 0 < B) (i : Nat) : 0 ≤ a.getD i 0 ∧ a.getD i 0 < B := by
 rw [List.getD_eq_getElem?_getD]
 by_cases hi : i < a.length
 ·rw [List.getElem?_eq_getElem hi]
  exact h _ (List.getElem_mem hi)
 ·rw [List.getElem?_eq_none (by omega)]
  exact ⟨Int.le_refl 0, hB⟩
theorem Dg.replicate {B : Int} (hB : 0 < B) (n : Nat) : Dg B (List.replicate n 0) := fun y hy => by
 obtain ⟨_, rfl⟩ := List.mem_replicate.1 hy
 exact ⟨Int.le_refl 0, hB⟩
theorem dv_append (B : Int) (a b : List Int) : dv B (a ++ b) = dv B a + pw B a.length * dv B b := by
 induction a with
 | nil => simp [dv, pw]
 | cons x a ih =>
  simp only [List.cons_append, dv, List.length_cons, ih, pw_succ]
  grind
theorem dv_nonneg {B : Int} (hB : 0 < B) {l : List Int} (h : Dg B l) : 0 ≤ dv B l := by
 induction l with
 | nil => simp [dv]
 | cons x l ih =>
  have := h.head
  have := Int.mul_nonneg (Int.le_of_lt hB) (ih h.tail)
  simp only [dv]
  omega
theorem pow_pos {B : Int} (hB : 0 < B) (n : Nat) : 0 < pw B n := by
 induction n with
 | zero => exact Int.one_pos
 | succ n ih => exact Int.mul_pos ih hB
theorem dv_lt {B : Int} (hB : 0 < B) {l : List Int} (h : Dg B l) : dv B l < pw B l.length := by
 induction l with
 | nil => simp [dv, pw]
 | cons x l ih =>
  have h1 := h.head
  have h2 := ih h.tail
  have h3 : B * (dv B l + 1) ≤ B * pw B l.length := Int.mul_le_mul_of_nonneg_left (by omega) (Int.le_of_lt hB)
  simp only [dv, List.length_cons, pw_succ]
  rw [Int.mul_add, Int.mul_comm B (pw B l.length)] at h3
  omega
theorem dv_replicate (B : Int) (n : Nat) : dv B (List.replicate n 0) = 0 := by
 induction n with
 | zero => rfl
 | succ n ih => simp [List.replicate_succ, dv, ih]
theorem dv_set (B : Int) (l : List Int) (i : Nat) (v : Int) (hi : i < l.length) : dv B (l.set i v) = dv B l + (v - l.getD i 0) * pw B i := by
 induction l generalizing i with
 | nil => simp at hi
 | cons x l ih =>
  cases i with
  | zero => simp [dv, pw]; omega
  | succ i =>
   have := ih i (by simpa using hi)
   simp only [List.set_cons_succ, dv, this, List.getD_cons_succ, pw_succ]
   grind
theorem dv_take_succ (B : Int) (l : List Int) (i : Nat) (hi : i < l.length) : dv B (l.take (i + 1)) = dv B (l.take i) + l.getD i 0 * pw B i := by
 rw [List.take_succ_eq_append_getElem hi, dv_append, List.length_take, Nat.min_eq_left (by omega)]
 simp only [dv, List.getD_eq_getElem?_getD, List.getElem?_eq_getElem hi, Option.getD_some]
 grind
theorem dv_split (B : Int) (l : List Int) (i : Nat) (hi : i ≤ l.length) : dv B l = dv B (l.take i) + pw B i * dv B (l.drop i) := by
 have := dv_append B (l.take i) (l.drop i)
 rw [List.take_append_drop, List.length_take, Nat.min_eq_left hi] at this
 exact this
theorem dv_drop (B : Int) (l : List Int) (i : Nat) (hi : i < l.length) : dv B (l.drop i) = l.getD i 0 + B * dv B (l.drop (i + 1)) := by
 rw [List.drop_eq_getElem_cons hi]
 simp only [dv, List.getD_eq_getElem?_getD, List.getElem?_eq_getElem hi, Option.getD_some]
theorem dv_snoc (B : Int) (l : List Int) (x : Int) : dv B (l ++ [x]) = dv B l + x * pw B l.length := by
 rw [dv_append]
 simp only [dv]
 grind
theorem dv_ge {B : Int} (hB : 0 < B) {l : List Int} (h : Cn B l) (hne : l ≠ []) : pw B (l.length - 1) ≤ dv B l := by
 have h1 := List.dropLast_concat_getLast hne
 have h2 : Dg B l.dropLast := fun y hy => h.dg y (List.dropLast_subset l hy)
 have h3 := h.dg _ (List.getLast_mem hne)
 have h4 := h.top hne
 have h5 := dv_nonneg hB h2
 have h6 : 0 < pw B l.dropLast.length := pow_pos hB _
 have h7 : 1 * pw B l.dropLast.length ≤ l.getLast hne * pw B l.dropLast.length := Int.mul_le_mul_of_nonneg_right (by omega) (Int.le_of_lt h6)
 rw [← h1, dv_snoc]
 have h8 : (l.dropLast ++ [l.getLast hne]).length - 1 = l.dropLast.length := by simp
 rw [h8]
 omega
theorem dv_pos {B : Int} (hB : 0 < B) {l : List Int} (h : Cn B l) (hne : l ≠ []) : 0 < dv B l :=
 Int.lt_of_lt_of_le (pow_pos hB _) (dv_ge hB h hne)
theorem pow_le {B : Int} (hB : 1 ≤ B) {m n : Nat} (h : m ≤ n) : pw B m ≤ pw B n := by
 obtain ⟨d, rfl⟩ : ∃ d, n = m + d := ⟨n - m, by omega⟩
 clear h
 induction d with
 | zero => exact Int.le_refl _
 | succ d ih =>
  have h1 : pw B (m + d) * 1 ≤ pw B (m + d) * B := Int.mul_le_mul_of_nonneg_left hB (Int.le_of_lt (pow_pos (by omega) _))
  rw [← Nat.add_assoc, pw_succ]
  omega
theorem dv_len {B : Int} (hB : 0 < B) {a b : List Int} (ha : Dg B a) (hb : Cn B b) (hl : a.length < b.length) : dv B a < dv B b := by
 have hne : b ≠ [] := by
  rintro rfl
  simp at hl
 have h1 := dv_lt hB ha
 have h2 := dv_ge hB hb hne
 have h3 : pw B a.length ≤ pw B (b.length - 1) := pow_le hB (by omega)
 omega
theorem dv_less {B : Int} (hB : 0 < B) {a b : List Int} (ha : Dg B a) (hb : Dg B b) (hl : a.length = b.length) (i : Nat) (hi : i < a.length) (hs : dv B (a.drop (i + 1)) = dv B (b.drop (i + 1))) (hlt : a.getD i 0 < b.getD i 0) : dv B a < dv B b := by
 have h1 := dv_split B a (i + 1) (by omega)
 have h2 := dv_split B b (i + 1) (by omega)
 have h3 := dv_take_succ B a i hi
 have h4 := dv_take_succ B b i (by omega)
 have h5 := dv_lt hB (ha.take i)
 have h6 := dv_nonneg hB (hb.take i)
 rw [List.length_take, Nat.min_eq_left (by omega)] at h5
 have h7 : (a.getD i 0 + 1) * pw B i ≤ b.getD i 0 * pw B i := Int.mul_le_mul_of_nonneg_right (by omega) (Int.le_of_lt (pow_pos hB i))
 rw [Int.add_mul] at h7
 rw [h1, h2, h3, h4, hs]
 omega
theorem getD_ge {l : List Int} {i : Nat} (h : l.length ≤ i) : l.getD i 0 = 0 := by
 rw [List.getD_eq_getElem?_getD, List.getElem?_eq_none h]
 rfl
theorem dv_take_succ' (B : Int) (l : List Int) (i : Nat) : dv B (l.take (i + 1)) = dv B (l.take i) + l.getD i 0 * pw B i := by
 by_cases hi : i < l.length
 ·exact dv_take_succ B l i hi
 ·rw [List.take_of_length_le (by omega), List.take_of_length_le (by omega), getD_ge (by omega)]
  omega
theorem getD_set {l : List Int} {i j : Nat} {v : Int} (h : i ≠ j) : (l.set i v).getD j 0 = l.getD j 0 := by
 simp [List.getD_eq_getElem?_getD, List.getElem?_set_ne h]
theorem getD_set_self {l : List Int} {i : Nat} {v : Int} (h : i < l.length) : (l.set i v).getD i 0 = v := by
 simp [List.getD_eq_getElem?_getD, List.getElem?_set_self h]
theorem mul_lt_sq {B x y : Int} (h0 : 0 ≤ x) (h1 : x < B) (h2 : 0 ≤ y) (h3 : y < B) : 0 ≤ x * y ∧ x * y ≤ (B - 1) * (B - 1) :=
 ⟨Int.mul_nonneg h0 h2, Int.mul_le_mul (by omega) (by omega) h2 (by omega)⟩
theorem dv_nil (B : Int) : dv B [] = 0 := rfl
theorem Cn.nil (B : Int) : Cn B [] := ⟨Dg.nil B, fun h => absurd rfl h⟩
theorem top_of_getD {l : List Int} (h : l.getD (l.length - 1) 0 ≠ 0) : Top l := by
 intro hne
 have hp : 0 < l.length := List.length_pos_iff.2 hne
 rw [List.getLast_eq_getElem]
 rw [List.getD_eq_getElem?_getD, List.getElem?_eq_getElem (by omega)] at h
 exact h
theorem top_getD {l : List Int} (h : Top l) (hne : 0 < l.length) : l.getD (l.length - 1) 0 ≠ 0 := by
 have h1 := h (List.length_pos_iff.1 hne)
 rw [List.getLast_eq_getElem] at h1
 rw [List.getD_eq_getElem?_getD, List.getElem?_eq_getElem (by omega)]
 exact h1
end Go.Proofs.Ytknklchmpohjfaa.Ml
namespace Go.Proofs.Ytknklchmpohjfaa.Z
open Go.RowKit Go.Proofs.YtknklchmpohjfaaW.PrintWords Go.Proofs.YtknklchmpohjfaaW.PrintLast Go.Proofs.YtknklchmpohjfaaW.PrintMore
set_option linter.unusedVariables false
set_option autoImplicit false
def bs (n m : Nat) : Array Bool := ((List.range n).map m.testBit).toArray
section
variable {P : Program} {ops : Array Oper} {Q : Exit → Act → World → Prop} {md : Region.Mode} {S : World → Prop} {ds : List Nat} {fuel : Nat} {l : Array Bool} {a a' : Act} {w : World}
theorem zP (i : Nat) (t : Tmp) (n m : Nat) {oi : Oper} {v : Value} (h : wpAnyLast P md ops Q S ds fuel (bs n m) a' w) (hi : ops[i]? = some oi := by rfl) (hN : oi.dst = some t := by rfl) (hc : anyB md ops l (bs n m) i = true := by kernel_rfl)
  (hQ : ∀ c a w, Q (.panic c) (a.put oi.dst v) w → Q (.panic c) a w := by exact fun _ _ _ h => h) (hy : Yields P ops oi v a := by exact Or.inl ⟨by rfl, by intro w'; go_simp; first | done | with_reducible rfl⟩)
  (ha : a.put (some t) v = a' := by simp only [Act.put, List.setIfInBounds_toArray, List.set_cons_zero, List.set_cons_succ, i64_w, i32_w]; rfl) : wpAnyLast P md ops Q S ds (fuel + 1) l a w := pure_ (bs n m) hi hN hc hQ hy ha h
theorem zT (i : Nat) (t : Tmp) (n m : Nat) {oi : Oper} {v : Value} (hS : S w) (h : wpAnyLast P md ops Q S ds fuel (bs n m) a' w) (hi : ops[i]? = some oi := by rfl) (hN : oi.dst = some t := by rfl) (hc : takeB md ops ds l (bs n m) i = true := by kernel_rfl)
  (hQ : ∀ c a w, Q (.panic c) (a.put oi.dst v) w → Q (.panic c) a w := by exact fun _ _ _ h => h) (hy : YieldsIf P ops S oi v a := by exact Or.inl ⟨by rfl, by intro w' hS; (repeat (rcases hS with ⟨_, hS⟩)); go_simp; first | done | with_reducible rfl⟩)
  (ha : a.put (some t) v = a' := by simp only [Act.put, List.setIfInBounds_toArray, List.set_cons_zero, List.set_cons_succ, i64_w, i32_w]; rfl) : wpAnyLast P md ops Q S ds (fuel + 1) l a w := take_ (bs n m) hi hN hc hQ hy hS ha h
theorem zN (i : Nat) (N : Option Tmp) (n m : Nat) {oi : Oper}
  (h : ∀ K : Act → World → Prop, Shut (∀ a' w', S w' → (S w' → wpAnyLast P md ops Q S ds fuel (bs n m) a' w') → K a' w') → if Region.wanted oi (yielded ops a.tmps) = true then Oper.wp P oi a w K Q else K (a.put N undef) w)
  (hi : ops[i]? = some oi := by rfl) (hN : oi.dst = N := by rfl) (hc : readyB md ops l (bs n m) i = true := by kernel_rfl) (hd : i ∉ ds := by decide) : wpAnyLast P md ops Q S ds (fuel + 1) l a w := one_ (bs n m) hi hN hc hd h
theorem zL (i : Nat) (N : Option Tmp) (n m : Nat) {oi : Oper}
  (h : ∀ K : Act → World → Prop, Shut (∀ a' w', wpAnyLast P md ops Q S ds fuel (bs n m) a' w' → K a' w') → if Region.wanted oi (yielded ops a.tmps) = true then Oper.wp P oi a w K Q else K (a.put N undef) w)
  (hi : ops[i]? = some oi := by rfl) (hN : oi.dst = N := by rfl) (hc : readyB md ops l (bs n m) i = true := by kernel_rfl) (hd : i ∈ ds := by decide) : wpAnyLast P md ops Q S ds (fuel + 1) l a w := last_ (bs n m) hi hN hc hd h
theorem zM (t : Tmp) {N : Option Tmp} {v : Value} (h : wpAnyLast P md ops Q S ds fuel l a' w) (hN : N = some t := by rfl) (ha : a.put (some t) v = a' := by simp only [Act.put, List.setIfInBounds_toArray, List.set_cons_zero, List.set_cons_succ, i64_w, i32_w]; rfl) : wpAnyLast P md ops Q S ds fuel l (a.put N v) w := by
 subst hN
 exact norm_ ha h
theorem zG {oi : Oper} {N : Option Tmp} {K : Act → World → Prop} {f : FuncId} {fn : Func} {ar : Array Operand} {ts : Array TypeId} (hf : P.funcs[f]? = some fn) (args : Array Value)
  (h : Calls P f args w fun e w' => ∃ v, e = .returned v ∧ K (a.put N v) w') (hname : (fn.name == "runtime.NumGoroutine") = false := by kernel_rfl) (hb : fn.body.isSome = true := by rfl)
  (hw : Region.wanted oi (yielded ops a.tmps) = true := by rfl) (hN : oi.dst = N := by rfl) (hop : oi.op = .call { callee := .value (.func f), args := ar, argTypes := ts } := by rfl) (hargs : ar.map a.eval = args := by (try simp only [List.map_toArray, List.map_cons, List.map_nil]); first | done | rfl | (simp only [List.length_drop, List.length_take]; rfl)) :
  if Region.wanted oi (yielded ops a.tmps) = true then Oper.wp P oi a w K Q else K (a.put N undef) w := goes_ hf hname hb args hw hN hop hargs h
end
section
variable {P : Program} {ops : Array Oper} {Q : Exit → Act → World → Prop} {rest : List Oper} {oi : Oper} {a : Act} {w : World}
theorem zC (t : Tmp) {f : FuncId} {fn : Func} {ar : Array Operand} {ts : Array TypeId} (hf : P.funcs[f]? = some fn) (args : Array Value)
  (h : Calls P f args w fun e w' => ∃ v, e = .returned v ∧ wpList P ops Q rest (a.put (some t) v) w') (hd : oi.dst = some t := by rfl) (hg : oi.guard = none := by rfl) (hname : (fn.name == "runtime.NumGoroutine") = false := by kernel_rfl) (hb : fn.body.isSome = true := by rfl)
  (hop : oi.op = .call { callee := .value (.func f), args := ar, argTypes := ts } := by rfl) (hargs : ar.map a.eval = args := by (try simp only [List.map_toArray, List.map_cons, List.map_nil]); first | done | rfl | (simp only [List.length_drop, List.length_take]; rfl)) : wpList P ops Q (oi :: rest) a w := goesL_ (some t) hd hg hf hname hb args hop hargs h
theorem zB (N : Tmp) (t : TypeId) (cs : Array Value) (h : ∀ g, g = w.heap.size → ∀ w1, w1.heap[g]? = some (.cells cs t (0, 0)) → Below w.heap.size w w1 → wpList P ops Q rest (a.put oi.dst (.pointer (some ⟨g, 0, none⟩))) w1)
  (hgd : oi.guard = none := by rfl) (hd : oi.dst = some N := by rfl) (hrun : (execOp a.eval oi).run P w = .ok (.value (.pointer (some ⟨w.heap.size, 0, none⟩))) (w.alloc (.cells cs t (0, 0))) := by first | (go_simp; done) | (go_simp; rfl)) : wpList P ops Q (oi :: rest) a w := box_event hgd hd hrun h
end
section
variable {w w0 W W2 : World} {B : Nat}
theorem bz (h : Below B w W := by repeat (first | (with_reducible first | exact HB.out | apply below_alloc | apply pw_below_drewN | apply below_drew1) | exact HB.out | (with_reducible refine below_set ?_ (Aside0.out (by assumption))) | refine below_set ?_ (Aside0.out (by assumption)))) : Below B w W := h
theorem bp (hb : Below W.heap.size W W2) (h : Below w.heap.size w W := by exact bz) : Aside0 (Below w.heap.size w W2) := ⟨below_step h hb⟩
theorem sz (h : Below w.heap.size w W := by exact bz) : w.heap.size ≤ W.heap.size := below_size h
theorem gz {g : Nat} (hg : g = W.heap.size) (h : Below w.heap.size w W := by exact bz) : Aside0 (w.heap.size ≤ g) := ⟨by rw [hg]; exact below_size h⟩
theorem kz {g : Nat} {o : Obj} (h : W.heap[g]? = some o := by (with_reducible repeat (first | refine blk_drewN ?_ _ | refine blk_drew ?_ | refine blk_alloc ?_ _)); exact Aside0.out (by assumption)) : W.heap[g]? = some o := h
theorem kb {g : Nat} {o : Obj} (k : Aside0 (w0.heap[g]? = some o)) (hb : Below W.heap.size W W2) (h : W.heap[g]? = some o := by exact kz) : Aside0 (W2.heap[g]? = some o) := ⟨blk_below h hb⟩
theorem bl {g : Nat} {o : Obj} (k : Aside0 (w0.heap[g]? = some o)) (h : W.heap[g]? = some o := by exact kz) : g < W.heap.size := blk_lt h
theorem ct {g : Nat} {cs : Array Value} {t : TypeId} {v : Value} (h : Aside0 (w.heap[g]? = some (.cells cs t (0, 0)))) (o : Nat) (hv : cs[o]? = some v := by rfl) : w.cell? ⟨g, o, none⟩ = some v := (blk_cell h.out o).trans hv
theorem xc2 {g : Nat} {a b : Value} {t : TypeId} (h : Aside0 (w.heap[g]? = some (.cells #[a, b] t (0, 0)))) : w.cell? ⟨g, 0, none⟩ = some a ∧ w.cell? ⟨g, 1, none⟩ = some b ∧ w.frozen? ⟨g, 0, none⟩ = false ∧ w.frozen? ⟨g, 1, none⟩ = false := ⟨(blk_cell h.out 0).trans rfl, (blk_cell h.out 1).trans rfl, blk_frozen h.out 0, blk_frozen h.out 1⟩
theorem xc4 {g : Nat} {a b c d : Value} {t : TypeId} (h : Aside0 (w.heap[g]? = some (.cells #[a, b, c, d] t (0, 0)))) : w.cell? ⟨g, 0, none⟩ = some a ∧ w.cell? ⟨g, 1, none⟩ = some b ∧ w.cell? ⟨g, 2, none⟩ = some c ∧ w.cell? ⟨g, 3, none⟩ = some d ∧ w.frozen? ⟨g, 0, none⟩ = false ∧ w.frozen? ⟨g, 1, none⟩ = false ∧ w.frozen? ⟨g, 2, none⟩ = false ∧ w.frozen? ⟨g, 3, none⟩ = false := ⟨(blk_cell h.out 0).trans rfl, (blk_cell h.out 1).trans rfl, (blk_cell h.out 2).trans rfl, (blk_cell h.out 3).trans rfl, blk_frozen h.out 0, blk_frozen h.out 1, blk_frozen h.out 2, blk_frozen h.out 3⟩
end
section
variable {α β : Type} {d : Kd α} {w w0 W : World} {A : Option Addr} {n : Nat} {xs : List α} {e base : Nat} {ok : Nat → Prop} {v : Value} {c : Nat}
theorem cz (k : Aside0 (d.C w A n xs)) (h : d.C W A n xs := by repeat (first | exact (Kd.C_below (Aside0.out (by assumption)) HB.out) | (with_reducible refine Kd.C_alloc ?_ _) | (with_reducible refine Kd.C_drewN ?_ _) | (with_reducible refine Kd.C_drew ?_))) : d.C W A n xs := h
theorem cr (k : Aside0 (d.R e w0 base ok (.slice A n c) xs)) (h : d.C W A xs.length xs := by repeat (first | exact (Kd.R_reads' (Aside0.out (by assumption))).2.2 | (with_reducible refine Kd.C_alloc ?_ _) | (with_reducible refine Kd.C_drewN ?_ _) | (with_reducible refine Kd.C_drew ?_))) : d.C W A xs.length xs := h
theorem rz (k : Aside0 (d.R e w0 base ok v xs)) (h : d.R e W base ok v xs := by (with_reducible repeat (first | apply Kd.R_alloc | apply Kd.R_drewN | apply Kd.R_drew)); exact Aside0.out (by assumption)) : d.R e W base ok v xs := h
theorem od {p : Prop} [Decidable p] (h : decide p = true := by first | (with_reducible assumption) | assumption) : p := of_decide_eq_true h
theorem cl {a : Addr} {v : Value} (k : Aside0 (Below w.heap.size w W)) (h : w.cell? a = some v) : W.cell? a = some v := (k.out.cell (World.block_lt_of_cell? w _ h)).trans h
theorem ob {x : Option α} {f : α → Option β} {r : β} (h : x.bind f = some r) : ∃ y, Aside0 (x = some y) ∧ f y = some r := by
 obtain ⟨y, h1, h2⟩ := Option.bind_eq_some_iff.mp h
 exact ⟨y, ⟨h1⟩, h2⟩
theorem bf {b : Bool} (h : ¬ b = true) : b = false := Bool.eq_false_iff.mpr h
theorem ez {a b : α} (h : a = b := by first | rfl | (simp <;> rfl) | (simp [*] <;> rfl)) : a = b := h
theorem jz {a b : α} (h : a = b := by first | rfl | (simp; done) | (simp [*]; done)) : a = b := h
end
end Go.Proofs.Ytknklchmpohjfaa.Z
namespace Go.Proofs.Ytknklchmpohjfaa.P
open Go.Proofs.Ytknklchmpohjfaa.Z Go.RowKit Go.Proofs.YtknklchmpohjfaaW.PrintWords Go.Proofs.YtknklchmpohjfaaW.PrintLast Go.Proofs.YtknklchmpohjfaaW.PrintMore
attribute [local go_sem] max2_int min2_int max_two min_two max_three min_three max_four min_four
set_option linter.unusedVariables false
set_option linter.unusedSimpArgs false
def errW : Option Int → Value
 | none => .nilIface
 | some c => .iface 0 (.int .i64 c)
theorem errW_none : errW none = .nilIface := rfl
theorem errW_some (c : Int) : errW (some c) = .iface 0 (.int .i64 c) := rfl
theorem info147 : (Try.prog.info? 147).map (fun i => (i.zero, i.size, i.bytes)) = some (some (.int .u32 0), 1, 4) := by kernel_rfl
def num_trim.l0 : Nat → List Int → Option (List Int)
  | 0, _ => none
  | k + 1, x0 => if (x0.length : Int) > 0 then (if 0 ≤ (wrap64 ((x0.length : Int) - 1)) then (if (wrap64 ((x0.length : Int) - 1)) < (x0.length : Int) then (if (rd x0 (wrap64 ((x0.length : Int) - 1))) = 0 then (if (wrap64 ((x0.length : Int) - 1)) ≤ (x0.length : Int) then (num_trim.l0 k (x0.take ((wrap64 ((x0.length : Int) - 1)) : Int).toNat)) else (none)) else (some x0)) else (none)) else (none)) else (some x0)
def num_trim.f (k : Nat) (l0 : List Int) : Option (List Int) := num_trim.l0 k l0
set_option maxHeartbeats 8000000 in
set_option maxRecDepth 100000 in
theorem num_trim.calls (k : Nat) (P0_ : Nat → Prop) (A0 : Option Addr) (c0 : Nat) (l0 : List Int) (r : List Int) (w : World) (hs0 : Kd.V (Kd.int .u32) 147 w w.heap.size (fun k_ => P0_ k_) (.slice A0 l0.length c0) l0) (h : num_trim.f k l0 = some r) :
  Calls Try.prog 114 #[.slice A0 l0.length c0] w fun e w' => ∃ v0_ : Value, e = .returned (v0_) ∧ Kd.V (Kd.int .u32) 147 w' w.heap.size (fun k_ => (P0_ k_ ∨ w.heap.size ≤ k_)) v0_ r ∧ Below w.heap.size w w' := by
 have HO0 := Aside0.mk (show Kd.V (Kd.int .u32) 147 w w.heap.size (fun k_ => (P0_ k_ ∨ w.heap.size ≤ k_)) (.slice A0 l0.length c0) l0 from Kd.V_mono hs0 (fun k_ hk => .inl hk))
 have HB := Aside0.mk (Below.refl w.heap.size w); have H : (num_trim.l0 k l0) = some r := h; clear h; have H' := Aside0.mk H; clear H
 go_enter Try.func114, Try.ntmps114
 go_wp2
 go_loopg [0] k (fun kq v0 w' => ∃ (x0_1 : List Int), Aside0 (num_trim.l0 kq x0_1 = some r) ∧ Aside0 (kq ≤ k) ∧ Aside0 (Kd.V (Kd.int .u32) 147 w' w.heap.size (fun k_ => (P0_ k_ ∨ w.heap.size ≤ k_)) v0 x0_1) ∧ Aside0 (Below w.heap.size w w'))
 case atStart => exact ⟨(l0), H', ⟨Nat.le_refl _⟩, ⟨by (with_reducible repeat (first | apply Kd.V_alloc | apply Kd.V_drewN | apply Kd.V_drew)); exact HO0.out⟩, ⟨bz⟩⟩
 case round =>
  clear H'
  try clear c1
  obtain ⟨x0_1, HA, HK1, HO_0, HB⟩ := hrel
  cases gk with
  | zero => exact absurd HA.out (by simp [num_trim.l0])
  | succ k1 =>
   have H := HA.out; clear HA; simp only [num_trim.l0] at H
   by_cases c2 : (x0_1.length : Int) > 0
   ·rw [if_pos c2] at H; have c2b0 : decide (0 < (x0_1.length : Int)) = true := decide_eq_true c2; have c2b1 : decide (0 < x0_1.length) = true := decide_eq_true (by omega); clear c2; obtain ⟨ji3, hji3⟩ : ∃ j_ : Int, (wrap64 ((x0_1.length : Int) - 1)) = j_ := ⟨_, rfl⟩; replace H : (if 0 ≤ (ji3) then (if (ji3) < (x0_1.length : Int) then (if (rd x0_1 (ji3)) = 0 then (if (ji3) ≤ (x0_1.length : Int) then (num_trim.l0 k1 (x0_1.take ((ji3) : Int).toNat)) else (none)) else (some x0_1)) else (none)) else (none)) = some r := by first | (rw [hji3] at H; exact H) | (simp only [hji3] at H ⊢; exact H)
    have hji3w : (IntKind.i64.wrap ((x0_1.length : Int) - 1)) = ji3 := (i64_w _).trans hji3
    by_cases c4 : 0 ≤ (ji3)
    ·rw [if_pos c4] at H; have c4b0 : decide (0 ≤ (ji3)) = true := decide_eq_true c4; clear c4
     by_cases c5 : (ji3) < (x0_1.length : Int)
     ·rw [if_pos c5] at H; have c5b0 : decide ((ji3) < (x0_1.length : Int)) = true := decide_eq_true c5; clear c5
      by_cases c6 : (rd x0_1 (ji3)) = 0
      ·rw [if_pos c6] at H; have c6b0 : ((rd x0_1 (ji3)) == 0) = true := beq_iff_eq.mpr c6; have c6b1 : ((rd x0_1 (ji3)) != 0) = false := bne_eq_false_iff_eq.mpr c6; clear c6; have c7b0 := eq_true (od : 0 ≤ (ji3))
       by_cases c8 : (ji3) ≤ (x0_1.length : Int)
       ·rw [if_pos c8] at H; have c8b0 := eq_true c8; have c8b1 : decide ((ji3) ≤ (x0_1.length : Int)) = true := decide_eq_true c8; clear c8; obtain ⟨y102, hy102⟩ : ∃ y_ : List Int, y_ = (x0_1.take ((ji3) : Int).toNat) := ⟨_, rfl⟩; replace H : (num_trim.l0 k1 y102) = some r := by first | (rw [hy102]; with_reducible exact H) | (have H2_ := (Option.bind_some _ _).symm.trans H; rw [hy102]; with_reducible exact H2_) | (have H2_ := (Option.bind_some _ _).symm.trans H; with_reducible exact H2_) | with_reducible exact H | (rw [hy102]; exact H) | exact H
        have Ny102 := Aside0.mk hy102; clear hy102; have H' := Aside0.mk H; clear H; obtain ⟨Ao9, co9, eo9⟩ := Kd.V_slice HO_0.out; subst eo9; have p101 : 0 ≤ ((ji3) : Int) := od; have q101 : (ji3) < (x0_1.length : Int) := od; obtain ⟨ad101, e101, hx101_0⟩ := Kd.at_int (Kd.V_reads' HO_0.out).2.2 (ji3) p101 q101
        cases e101
        replace p101 := eq_true p101; replace q101 := eq_true q101; have q10 : ((ji3) : Int) ≤ ((x0_1.length : Int) : Int) := od; obtain ⟨i010, hi010, _, hsz10, _⟩ := info_parts info147; have hroom10 : x0_1.length ≤ co9 := (Kd.V_reads' HO_0.out).2.1; have hC10 : Kd.F (Kd.int .u32) _ _ (some ad101) x0_1.length x0_1 := (Kd.V_at (base := w.heap.size) HO_0.out).2.2; have hcut10 := cut_to (P := Try.prog) 127 147 .i64 Try.underlying127 hi010 (some ad101) x0_1.length co9 (ji3) (od) q10 hroom10; have hr10 := Kd.F_take (m := ((ji3) : Int).toNat) hC10 (by omega); have hy10 : y102.length = ((ji3) : Int).toNat := (by rw [Ny102.out, List.length_take]; omega); rw [← Ny102.out] at hr10; rw [← hy10] at hcut10; have HO106 := Aside0.mk (show Kd.V (Kd.int .u32) 147 _ w.heap.size _ (.slice (some ad101) y102.length co9) y102 from Kd.V_mk (by omega) hr10); have HC106 := Aside0.mk (show y102.length ≤ co9 from by omega); clear hr10 hC10 hroom10 hi010 hsz10; have KY10 := Aside0.mk hy10; clear hy10; replace q10 := eq_true q10
        go_wp2
        go_roundg k1
        case measure => have := HK1.out; omega
        case rel => exact ⟨(y102), H', ⟨by have := HK1.out; omega⟩, ⟨by (with_reducible repeat (first | apply Kd.V_alloc | apply Kd.V_drewN | apply Kd.V_drew)); exact HO106.out⟩, ⟨bz⟩⟩
       ·rw [if_neg c8] at H
        exact absurd H (by simp)
      ·rw [if_neg c6] at H; have c6b0 : ((rd x0_1 (ji3)) == 0) = false := beq_eq_false_iff_ne.mpr c6; have c6b1 : ((rd x0_1 (ji3)) != 0) = true := bne_iff_ne.mpr c6; obtain rfl := Option.some.inj H; obtain ⟨Ao11, co11, eo11⟩ := Kd.V_slice HO_0.out; subst eo11; have p101 : 0 ≤ ((ji3) : Int) := od; have q101 : (ji3) < (x0_1.length : Int) := od; obtain ⟨ad101, e101, hx101_0⟩ := Kd.at_int (Kd.V_reads' HO_0.out).2.2 (ji3) p101 q101
       cases e101
       replace p101 := eq_true p101; replace q101 := eq_true q101
       go_wp2
       go_ret
       exact ⟨_, by first | rfl | (simp [errW_none, errW_some] <;> rfl) | (simp only [← hji3]; first | rfl | (simp [errW_none, errW_some] <;> rfl)) | (simp [*, errW_none, errW_some] <;> rfl), by (with_reducible repeat (first | apply Kd.V_alloc | apply Kd.V_drewN | apply Kd.V_drew)); exact HO_0.out, bz⟩
     ·rw [if_neg c5] at H
      exact absurd H (by simp)
    ·rw [if_neg c4] at H
     exact absurd H (by simp)
   ·rw [if_neg c2] at H; have c2b0 : decide (0 < (x0_1.length : Int)) = false := decide_eq_false c2; have c2b1 : decide (0 < x0_1.length) = false := decide_eq_false (by omega); clear c2; obtain rfl := Option.some.inj H; obtain ⟨Ao12, co12, eo12⟩ := Kd.V_slice HO_0.out; subst eo12
    go_wp2
    go_ret
    exact ⟨_, ez, by (with_reducible repeat (first | apply Kd.V_alloc | apply Kd.V_drewN | apply Kd.V_drew)); exact HO_0.out, bz⟩
def num_magOf.f (k : Nat) (a0 : Int) : Option (List Int) := (num_trim.f k (([(a0) % 4294967296, (a0 / 4294967296) % 4294967296] : List Int))).bind fun t110 => (some t110)
set_option maxHeartbeats 8000000 in
set_option maxRecDepth 100000 in
theorem num_magOf.calls (k : Nat) (a0 : Int) (r : List Int) (w : World) (h : num_magOf.f k a0 = some r) :
  Calls Try.prog 115 #[.int .u64 a0] w fun e w' => ∃ v0_ : Value, e = .returned (v0_) ∧ Kd.V (Kd.int .u32) 147 w' w.heap.size (fun k_ => (w.heap.size ≤ k_)) v0_ r ∧ Below w.heap.size w w' := by
 have HB := Aside0.mk (Below.refl w.heap.size w); have H : ((num_trim.f k (([(a0) % 4294967296, (a0 / 4294967296) % 4294967296] : List Int))).bind fun t110 => (some t110)) = some r := h
 clear h; obtain ⟨y107, hy107⟩ : ∃ y_ : List Int, y_ = (([(a0) % 4294967296, (a0 / 4294967296) % 4294967296] : List Int)) := ⟨_, rfl⟩; replace H : ((num_trim.f k y107).bind fun t110 => (some t110)) = some r := by first | (rw [hy107]; with_reducible exact H) | (have H2_ := (Option.bind_some _ _).symm.trans H; rw [hy107]; with_reducible exact H2_) | (have H2_ := (Option.bind_some _ _).symm.trans H; with_reducible exact H2_) | with_reducible exact H | (rw [hy107]; exact H) | exact H
 have Ny107 := Aside0.mk hy107; clear hy107; obtain ⟨t110, A2, H⟩ := ob H; obtain rfl := Option.some.inj H
 go_enter Try.func115, Try.ntmps115
 go_wp2_with (first | ((with_reducible refine gate_dst (N := 8) rfl ?_); refine Kd.R_lit (Kd.int .u32) _ 147 ?hg (N := 8) ?hd (xs := ([(a0) % 4294967296, (a0 / 4294967296) % 4294967296] : List Int)) (inner := [.int .u32 ((a0) % 4294967296), .int .u32 ((a0 / 4294967296) % 4294967296)]) (ok := fun _ => True) (okp := fun _ => True) ?hr ?hp (fun _ hk => hk) trivial (Below.refl _ _) (Nat.le_refl _) (by simp) ?_; (case hd => rfl); (case hg => rfl); (case hr => first | (go_simp; done) | (go_simp; rfl)); (case hp => exact (Reps.one (show Kd.M (Kd.int .u32) _ _ _ ((a0) % 4294967296) [.int .u32 ((a0) % 4294967296)] from rfl) (Reps.one (show Kd.M (Kd.int .u32) _ _ _ ((a0 / 4294967296) % 4294967296) [.int .u32 ((a0 / 4294967296) % 4294967296)] from rfl) (Reps.none _ _)))); intro v108 w3 ho4 hb hg_ hnew_; clear hg_ hnew_; (first | rw [← Ny107.out] at ho4 | (simp only [Int.reduceToNat] at ho4; rw [← Ny107.out] at ho4)); have HO109 := Aside0.mk (Kd.R_lower (Kd.R_newM (M := fun k_ => (w.heap.size ≤ k_)) ho4 sz (fun k_ h_ => h_)) sz); replace HB := bp hb; clear hb ho4; obtain ⟨Ao5, co5, eo5⟩ := Kd.R_slice HO109.out; subst eo5) | ((with_reducible refine gate_callee (f := 114) rfl ?_); refine zC 9 Try.func114 #[.slice Ao5 y107.length co5] ?_; (with_reducible refine (num_trim.calls k (fun k_ => some k_ = (.slice Ao5 y107.length co5 : Value).ownBlock) _ _ y107 t110 _ ?side1 A2.out).mono ?_); (case side1 => exact Kd.R_V (Kd.R_tight rfl (HO109.out))); rintro e w6 ⟨v111, rfl, ho0, hb⟩; refine ⟨_, rfl, ?_⟩; have HO112 := Aside0.mk (Kd.V_lower (Kd.V_mono (ok' := fun k_ => (w.heap.size ≤ k_)) ho0 (fun k_ hk_ => Or.elim hk_ (fun hs_ => ((HO109.out).1 k_ hs_.symm).1) (fun hn_ => (Nat.le_trans sz hn_)))) sz); replace HO109 := Aside0.mk (Kd.R_below (rz HO109) hb); replace HB := bp hb; clear hb ho0))
 go_ret
 exact ⟨_, ez, by (with_reducible repeat (first | apply Kd.V_alloc | apply Kd.V_drewN | apply Kd.V_drew)); exact HO112.out, bz⟩
def num_cmpMag.l0 : Nat → List Int → List Int → Int → Option (Int)
  | 0, _, _, _ => none
  | k + 1, x0, x1, x5 => if x5 ≥ 0 then (if 0 ≤ x5 then (if x5 < (x0.length : Int) then (if x5 < (x1.length : Int) then (if (rd x0 x5) = (rd x1 x5) then (num_cmpMag.l0 k x0 x1 (wrap64 (x5 - 1))) else (if (rd x0 x5) < (rd x1 x5) then (some (-1)) else (some 1))) else (none)) else (none)) else (none)) else (some 0)
def num_cmpMag.f (k : Nat) (l0 : List Int) (l1 : List Int) : Option (Int) := if (l0.length : Int) = (l1.length : Int) then (num_cmpMag.l0 k l0 l1 (wrap64 ((l0.length : Int) - 1))) else (some (wrap64 ((l0.length : Int) - (l1.length : Int))))
set_option maxHeartbeats 8000000 in
set_option maxRecDepth 100000 in
theorem num_cmpMag.calls (k : Nat) (A0 : Option Addr) (c0 : Nat) (l0 : List Int) (A1 : Option Addr) (c1 : Nat) (l1 : List Int) (r : Int) (w : World) (hr0 : Kd.C (Kd.int .u32) w A0 l0.length l0) (hc0 : l0.length ≤ c0) (hr1 : Kd.C (Kd.int .u32) w A1 l1.length l1) (hc1 : l1.length ≤ c1) (h : num_cmpMag.f k l0 l1 = some r) :
  Calls Try.prog 110 #[.slice A0 l0.length c0, .slice A1 l1.length c1] w fun e w' => e = .returned (.int .i64 r) ∧ Drawn0 w w' := by
 have HR0 := Aside0.mk hr0; have HC0 := Aside0.mk hc0; clear hr0 hc0; have HR1 := Aside0.mk hr1; have HC1 := Aside0.mk hc1; clear hr1 hc1; have H : (if (l0.length : Int) = (l1.length : Int) then (num_cmpMag.l0 k l0 l1 (wrap64 ((l0.length : Int) - 1))) else (some (wrap64 ((l0.length : Int) - (l1.length : Int))))) = some r := h; clear h
 by_cases c3 : (l0.length : Int) = (l1.length : Int)
 ·rw [if_pos c3] at H; have c3b0 : ((l0.length : Int) == (l1.length : Int)) = true := beq_iff_eq.mpr c3; have c3b1 : ((l0.length : Int) != (l1.length : Int)) = false := bne_eq_false_iff_eq.mpr c3; have c3b2 : (l0.length == l1.length) = true := by first | simpa using c3 | (simp at c3 ⊢; omega)
  clear c3; have H' := Aside0.mk H; clear H
  go_enter Try.func110, Try.ntmps110
  go_wp2
  repeat (go_quiet (fail); try go_wp2)
  go_loopg [5] k (fun kq v5 w' => ∃ (x5_1 : Int), v5 = .int .i64 x5_1 ∧ Aside0 (num_cmpMag.l0 kq l0 l1 x5_1 = some r) ∧ Aside0 (kq ≤ k) ∧ Drawn0 w w')
  case atStart => exact ⟨(wrap64 ((l0.length : Int) - 1)), jz, H', ⟨Nat.le_refl _⟩, by repeat (first | exact Drawn0.refl _ | apply Drawn0.step)⟩
  case round =>
   clear H'
   try clear c1
   try clear p2
   try clear c3
   try clear c3b0
   try clear c3b1
   try clear c3b2
   obtain ⟨x5_1, rfl, HA, HK1, ⟨m1, rfl⟩⟩ := hrel
   cases gk with
   | zero => exact absurd HA.out (by simp [num_cmpMag.l0])
   | succ k1 =>
    have H := HA.out; clear HA; simp only [num_cmpMag.l0] at H
    by_cases c4 : x5_1 ≥ 0
    ·rw [if_pos c4] at H; have c4b0 : decide (0 ≤ x5_1) = true := decide_eq_true c4; clear c4
     by_cases c5 : 0 ≤ x5_1
     ·rw [if_pos c5] at H; have c5b0 : decide (0 ≤ x5_1) = true := decide_eq_true c5; clear c5
      by_cases c6 : x5_1 < (l0.length : Int)
      ·rw [if_pos c6] at H; have c6b0 : decide (x5_1 < (l0.length : Int)) = true := decide_eq_true c6; clear c6
       by_cases c7 : x5_1 < (l1.length : Int)
       ·rw [if_pos c7] at H; have c7b0 : decide (x5_1 < (l1.length : Int)) = true := decide_eq_true c7; clear c7
        by_cases c8 : (rd l0 x5_1) = (rd l1 x5_1)
        ·rw [if_pos c8] at H; have c8b0 : ((rd l0 x5_1) == (rd l1 x5_1)) = true := beq_iff_eq.mpr c8; have c8b1 : ((rd l0 x5_1) != (rd l1 x5_1)) = false := bne_eq_false_iff_eq.mpr c8; clear c8; have H' := Aside0.mk H; clear H; have p113 : 0 ≤ (x5_1 : Int) := od; have q113 : x5_1 < (l0.length : Int) := od; obtain ⟨ad113, e113, hx113_0⟩ := Kd.at_int HR0.out x5_1 p113 q113
         cases e113
         replace p113 := eq_true p113; replace q113 := eq_true q113; have p114 : 0 ≤ (x5_1 : Int) := od; have q114 : x5_1 < (l1.length : Int) := od; obtain ⟨ad114, e114, hx114_0⟩ := Kd.at_int HR1.out x5_1 p114 q114
         cases e114
         replace p114 := eq_true p114; replace q114 := eq_true q114
         go_wp2
         repeat (go_quiet (fail); try go_wp2)
         go_roundg k1
         case measure => have := HK1.out; omega
         case rel => exact ⟨(wrap64 (x5_1 - 1)), jz, H', ⟨by have := HK1.out; omega⟩, by repeat (first | exact Drawn0.refl _ | apply Drawn0.step)⟩
        ·rw [if_neg c8] at H; have c8b0 : ((rd l0 x5_1) == (rd l1 x5_1)) = false := beq_eq_false_iff_ne.mpr c8; have c8b1 : ((rd l0 x5_1) != (rd l1 x5_1)) = true := bne_iff_ne.mpr c8
         by_cases c9 : (rd l0 x5_1) < (rd l1 x5_1)
         ·rw [if_pos c9] at H; have c9b0 : decide ((rd l0 x5_1) < (rd l1 x5_1)) = true := decide_eq_true c9; clear c9; obtain rfl := Option.some.inj H; have p113 : 0 ≤ (x5_1 : Int) := od; have q113 : x5_1 < (l0.length : Int) := od; obtain ⟨ad113, e113, hx113_0⟩ := Kd.at_int HR0.out x5_1 p113 q113
          cases e113
          replace p113 := eq_true p113; replace q113 := eq_true q113; have p114 : 0 ≤ (x5_1 : Int) := od; have q114 : x5_1 < (l1.length : Int) := od; obtain ⟨ad114, e114, hx114_0⟩ := Kd.at_int HR1.out x5_1 p114 q114
          cases e114
          replace p114 := eq_true p114; replace q114 := eq_true q114; have p115 : 0 ≤ (x5_1 : Int) := od; have q115 : x5_1 < (l0.length : Int) := od; obtain ⟨ad115, e115, hx115_0⟩ := Kd.at_int HR0.out x5_1 p115 q115; obtain rfl : ad113 = ad115 := (by injection e115); replace p115 := eq_true p115; replace q115 := eq_true q115; have p116 : 0 ≤ (x5_1 : Int) := od; have q116 : x5_1 < (l1.length : Int) := od; obtain ⟨ad116, e116, hx116_0⟩ := Kd.at_int HR1.out x5_1 p116 q116; obtain rfl : ad114 = ad116 := (by injection e116); replace p116 := eq_true p116; replace q116 := eq_true q116
          go_wp2
          repeat (go_quiet (fail); try go_wp2)
          go_ret
          exact ⟨by first | rfl | (simp; done) | (simp [*]; done), by repeat (first | exact Drawn0.refl _ | apply Drawn0.step)⟩
         ·rw [if_neg c9] at H; have c9b0 : decide ((rd l0 x5_1) < (rd l1 x5_1)) = false := decide_eq_false c9; clear c9; obtain rfl := Option.some.inj H; have p113 : 0 ≤ (x5_1 : Int) := od; have q113 : x5_1 < (l0.length : Int) := od; obtain ⟨ad113, e113, hx113_0⟩ := Kd.at_int HR0.out x5_1 p113 q113
          cases e113
          replace p113 := eq_true p113; replace q113 := eq_true q113; have p114 : 0 ≤ (x5_1 : Int) := od; have q114 : x5_1 < (l1.length : Int) := od; obtain ⟨ad114, e114, hx114_0⟩ := Kd.at_int HR1.out x5_1 p114 q114
          cases e114
          replace p114 := eq_true p114; replace q114 := eq_true q114; have p115 : 0 ≤ (x5_1 : Int) := od; have q115 : x5_1 < (l0.length : Int) := od; obtain ⟨ad115, e115, hx115_0⟩ := Kd.at_int HR0.out x5_1 p115 q115; obtain rfl : ad113 = ad115 := (by injection e115); replace p115 := eq_true p115; replace q115 := eq_true q115; have p116 : 0 ≤ (x5_1 : Int) := od; have q116 : x5_1 < (l1.length : Int) := od; obtain ⟨ad116, e116, hx116_0⟩ := Kd.at_int HR1.out x5_1 p116 q116; obtain rfl : ad114 = ad116 := (by injection e116); replace p116 := eq_true p116; replace q116 := eq_true q116
          go_wp2
          repeat (go_quiet (fail); try go_wp2)
          go_ret
          exact ⟨by first | rfl | (simp; done) | (simp [*]; done), by repeat (first | exact Drawn0.refl _ | apply Drawn0.step)⟩
       ·rw [if_neg c7] at H
        exact absurd H (by simp)
      ·rw [if_neg c6] at H
       exact absurd H (by simp)
     ·rw [if_neg c5] at H
      exact absurd H (by simp)
    ·rw [if_neg c4] at H; have c4b0 : decide (0 ≤ x5_1) = false := decide_eq_false c4; clear c4; obtain rfl := Option.some.inj H
     go_wp2
     repeat (go_quiet (fail); try go_wp2)
     go_ret
     exact ⟨by first | rfl | (simp; done) | (simp [*]; done), by repeat (first | exact Drawn0.refl _ | apply Drawn0.step)⟩
 ·rw [if_neg c3] at H; have c3b0 : ((l0.length : Int) == (l1.length : Int)) = false := beq_eq_false_iff_ne.mpr c3; have c3b1 : ((l0.length : Int) != (l1.length : Int)) = true := bne_iff_ne.mpr c3; have c3b2 : (l0.length == l1.length) = false := by first | simpa using c3 | (simp at c3 ⊢; omega)
  obtain rfl := Option.some.inj H
  go_enter Try.func110, Try.ntmps110
  go_wp2
  repeat (go_quiet (fail); try go_wp2)
  go_ret
  exact ⟨by first | rfl | (simp; done) | (simp [*]; done), by repeat (first | exact Drawn0.refl _ | apply Drawn0.step)⟩
mutual
def num_mulMag.l0 : Nat → List Int → List Int → List Int → Int → Int → Option (List Int)
  | 0, _, _, _, _, _ => none
  | k + 1, x1, x5, x17, x18, x19 => if x19 < x18 then (if 0 ≤ x19 then (if x19 < (x17.length : Int) then (num_mulMag.l1 k x1 x5 x19 (rd x17 x19) 0 x17 x18 x19 x1 (x1.length : Int) 0) else (none)) else (none)) else ((num_trim.f k x5).bind fun t130 => (some t130))
def num_mulMag.l1 : Nat → List Int → List Int → Int → Int → Int → List Int → Int → Int → List Int → Int → Int → Option (List Int)
  | 0, _, _, _, _, _, _, _, _, _, _, _ => none
  | k + 1, x1, x5, x6, x7, x8, x17, x18, x19, x24, x25, x26 => if x26 < x25 then (if 0 ≤ x26 then (if x26 < (x24.length : Int) then (if 0 ≤ (wrap64 (x6 + x26)) then (if (wrap64 (x6 + x26)) < (x5.length : Int) then (num_mulMag.l1 k x1 (x5.set ((wrap64 (x6 + x26)) : Int).toNat ((IntKind.u64.wrap (x8 + (IntKind.u64.wrap ((IntKind.u64.wrap ((IntKind.u64.wrap (x7)) * (IntKind.u64.wrap (rd x24 x26)))) + (IntKind.u64.wrap (rd x5 (wrap64 (x6 + x26)))))))) % 4294967296)) x6 x7 ((IntKind.u64.wrap (x8 + (IntKind.u64.wrap ((IntKind.u64.wrap ((IntKind.u64.wrap (x7)) * (IntKind.u64.wrap (rd x24 x26)))) + (IntKind.u64.wrap (rd x5 (wrap64 (x6 + x26)))))))) / 4294967296) x17 x18 x19 x24 x25 (wrap64 (x26 + 1))) else (none)) else (none)) else (none)) else (none)) else (if 0 ≤ (wrap64 (x6 + (x1.length : Int))) then (if (wrap64 (x6 + (x1.length : Int))) < (x5.length : Int) then (num_mulMag.l0 k x1 (x5.set ((wrap64 (x6 + (x1.length : Int))) : Int).toNat ((x8) % 4294967296)) x17 x18 (wrap64 (x19 + 1))) else (none)) else (none))
end
def num_mulMag.f (k : Nat) (l0 : List Int) (l1 : List Int) : Option (List Int) := if 0 ≤ (wrap64 ((l0.length : Int) + (l1.length : Int))) then (if (wrap64 ((l0.length : Int) + (l1.length : Int)) : Int).toNat ≤ 70368744177664 then (num_mulMag.l0 k l1 (List.replicate (wrap64 ((l0.length : Int) + (l1.length : Int)) : Int).toNat 0) l0 (l0.length : Int) 0) else (none)) else (none)
set_option maxHeartbeats 8000000 in
set_option maxRecDepth 100000 in
theorem num_mulMag.calls (k : Nat) (A0 : Option Addr) (c0 : Nat) (l0 : List Int) (A1 : Option Addr) (c1 : Nat) (l1 : List Int) (r : List Int) (w : World) (hr0 : Kd.C (Kd.int .u32) w A0 l0.length l0) (hc0 : l0.length ≤ c0) (hr1 : Kd.C (Kd.int .u32) w A1 l1.length l1) (hc1 : l1.length ≤ c1) (h : num_mulMag.f k l0 l1 = some r) :
  Calls Try.prog 112 #[.slice A0 l0.length c0, .slice A1 l1.length c1] w fun e w' => ∃ v0_ : Value, e = .returned (v0_) ∧ Kd.V (Kd.int .u32) 147 w' w.heap.size (fun k_ => (w.heap.size ≤ k_)) v0_ r ∧ Below w.heap.size w w' := by
 have HR0 := Aside0.mk hr0; have HC0 := Aside0.mk hc0; clear hr0 hc0; have HR1 := Aside0.mk hr1; have HC1 := Aside0.mk hc1; clear hr1 hc1; have HB := Aside0.mk (Below.refl w.heap.size w); have H : (if 0 ≤ (wrap64 ((l0.length : Int) + (l1.length : Int))) then (if (wrap64 ((l0.length : Int) + (l1.length : Int)) : Int).toNat ≤ 70368744177664 then (num_mulMag.l0 k l1 (List.replicate (wrap64 ((l0.length : Int) + (l1.length : Int)) : Int).toNat 0) l0 (l0.length : Int) 0) else (none)) else (none)) = some r := h; clear h; obtain ⟨ji3, hji3⟩ : ∃ j_ : Int, (wrap64 ((l0.length : Int) + (l1.length : Int))) = j_ := ⟨_, rfl⟩; replace H : (if 0 ≤ (ji3) then (if (ji3 : Int).toNat ≤ 70368744177664 then (num_mulMag.l0 k l1 (List.replicate (ji3 : Int).toNat 0) l0 (l0.length : Int) 0) else (none)) else (none)) = some r := by first | (rw [hji3] at H; exact H) | (simp only [hji3] at H ⊢; exact H)
 have hji3w : (IntKind.i64.wrap ((l0.length : Int) + (l1.length : Int))) = ji3 := (i64_w _).trans hji3
 by_cases c4 : 0 ≤ (ji3)
 ·rw [if_pos c4] at H; have c4b0 := eq_true c4; have c4b1 : decide (0 ≤ (ji3)) = true := decide_eq_true c4; clear c4
  by_cases c5 : (ji3 : Int).toNat ≤ 70368744177664
  ·rw [if_pos c5] at H; have c5b0 := eq_true c5; have c5b1 : decide ((ji3 : Int).toNat ≤ 70368744177664) = true := decide_eq_true c5; clear c5; obtain ⟨y127, hy127⟩ : ∃ y_ : List Int, y_ = (List.replicate (ji3 : Int).toNat 0) := ⟨_, rfl⟩; replace H : (num_mulMag.l0 k l1 y127 l0 (l0.length : Int) 0) = some r := by first | (rw [hy127]; with_reducible exact H) | (have H2_ := (Option.bind_some _ _).symm.trans H; rw [hy127]; with_reducible exact H2_) | (have H2_ := (Option.bind_some _ _).symm.trans H; with_reducible exact H2_) | with_reducible exact H | (rw [hy127]; exact H) | exact H
   have Ny127 := Aside0.mk hy127; clear hy127; have H' := Aside0.mk H; clear H
   go_enter Try.func112, Try.ntmps112
   go_wp2_with (first | ((with_reducible refine gate_dst (N := 16) rfl ?_); refine Kd.R_make (Kd.int .u32) _ 147 rfl (N := 16) rfl 127 _ _ rfl ji3 rfl rfl Try.underlying127 (.int .u32 0) 4 info147 rfl (by decide) (by omega) 0 (ok := fun _ => True) (okp := fun _ => True) rfl (fun _ hk => hk) trivial (od) (Nat.le_trans (Nat.mul_le_mul_right _ (od : ji3.toNat ≤ 70368744177664)) (by omega)) (Below.refl _ _) (Nat.le_refl _) ?_; intro v128 w6 ho7 hb hg_ hnew_; clear hg_ hnew_; (first | rw [← Ny127.out] at ho7 | (simp only [Int.reduceToNat] at ho7; rw [← Ny127.out] at ho7)); have HO129 := Aside0.mk (Kd.R_lower (Kd.R_newM (M := fun k_ => (w.heap.size ≤ k_)) ho7 sz (fun k_ h_ => h_)) sz); replace HB := bp hb; clear hb ho7))
   go_loopg [19] k (fun kq v19 w' => ∃ (x5_1 : List Int) (x19_1 : Int), v19 = .int .i64 x19_1 ∧ Aside0 (num_mulMag.l0 kq l1 x5_1 l0 (l0.length : Int) x19_1 = some r) ∧ Aside0 (kq ≤ k) ∧ Aside0 (Kd.R (Kd.int .u32) 147 w' w.heap.size (fun k_ => (w.heap.size ≤ k_)) v128 x5_1) ∧ Aside0 (Below w.heap.size w w'))
   case atStart => exact ⟨(y127), (0), jz, H', ⟨Nat.le_refl _⟩, ⟨by (with_reducible repeat (first | apply Kd.R_alloc | apply Kd.R_drewN | apply Kd.R_drew)); exact Kd.R_mono HO129.out (fun _ hk => hk.1)⟩, ⟨bz⟩⟩
   case round =>
    clear H'
    try clear c1
    try clear p2
    try clear c4
    try clear c4b0
    try clear c4b1
    try clear c5
    try clear c5b0
    try clear c5b1
    try clear p6
    obtain ⟨x5_1, x19_1, rfl, HA, HK1, HO_5, HB⟩ := hrel
    cases gk with
    | zero => exact absurd HA.out (by simp [num_mulMag.l0])
    | succ k1 =>
     have H := HA.out; clear HA; simp only [num_mulMag.l0] at H
     by_cases c8 : x19_1 < (l0.length : Int)
     ·rw [if_pos c8] at H; have c8b0 : decide (x19_1 < (l0.length : Int)) = true := decide_eq_true c8; clear c8
      by_cases c9 : 0 ≤ x19_1
      ·rw [if_pos c9] at H; have c9b0 : decide (0 ≤ x19_1) = true := decide_eq_true c9; clear c9
       by_cases c10 : x19_1 < (l0.length : Int)
       ·rw [if_pos c10] at H; have c10b0 : decide (x19_1 < (l0.length : Int)) = true := decide_eq_true c10; clear c10; have H' := Aside0.mk H; clear H; have p133 : 0 ≤ (x19_1 : Int) := od; have q133 : x19_1 < (l0.length : Int) := od; obtain ⟨ad133, e133, hx133_0⟩ := Kd.at_int HR0.out x19_1 p133 q133
        cases e133
        replace hx133_0 := cl HB hx133_0; replace p133 := eq_true p133; replace q133 := eq_true q133
        go_wp2
        go_loopg [8, 26] k1 (fun kq v8 v26 w' => ∃ (x5_2 : List Int) (x8_2 : Int) (x26_2 : Int), v8 = .int .u64 x8_2 ∧ v26 = .int .i64 x26_2 ∧ Aside0 (num_mulMag.l1 kq l1 x5_2 x19_1 (rd l0 x19_1) x8_2 l0 (l0.length : Int) x19_1 l1 (l1.length : Int) x26_2 = some r) ∧ Aside0 (kq ≤ k1) ∧ Aside0 (Kd.R (Kd.int .u32) 147 w' w.heap.size (fun k_ => (w.heap.size ≤ k_)) v128 x5_2) ∧ Aside0 (Below w.heap.size w w'))
        case atStart => exact ⟨(x5_1), (0), (0), jz, jz, H', ⟨Nat.le_refl _⟩, ⟨rz HO_5⟩, ⟨bz⟩⟩
        case round =>
         clear H'
         try clear c1
         try clear p1
         try clear q1
         try clear hx1
         try clear p2
         try clear c4
         try clear c4b0
         try clear c4b1
         try clear c5
         try clear c5b0
         try clear c5b1
         try clear p6
         try clear c8
         try clear c8b0
         try clear c9
         try clear c9b0
         try clear c10
         try clear c10b0
         try clear hx133_0
         try clear p133
         try clear p2
         try clear p6
         try clear q133
         obtain ⟨x5_2, x8_2, x26_2, rfl, rfl, HA, HK2, HO_5, HB⟩ := hrel
         cases gk with
         | zero => exact absurd HA.out (by simp [num_mulMag.l1])
         | succ k2 =>
          have H := HA.out; clear HA; simp only [num_mulMag.l1] at H
          by_cases c11 : x26_2 < (l1.length : Int)
          ·rw [if_pos c11] at H; have c11b0 : decide (x26_2 < (l1.length : Int)) = true := decide_eq_true c11; clear c11
           by_cases c12 : 0 ≤ x26_2
           ·rw [if_pos c12] at H; have c12b0 : decide (0 ≤ x26_2) = true := decide_eq_true c12; clear c12
            by_cases c13 : x26_2 < (l1.length : Int)
            ·rw [if_pos c13] at H; have c13b0 : decide (x26_2 < (l1.length : Int)) = true := decide_eq_true c13; clear c13; obtain ⟨ji14, hji14⟩ : ∃ j_ : Int, (wrap64 (x19_1 + x26_2)) = j_ := ⟨_, rfl⟩; replace H : (if 0 ≤ (ji14) then (if (ji14) < (x5_2.length : Int) then (num_mulMag.l1 k2 l1 (x5_2.set ((ji14) : Int).toNat ((IntKind.u64.wrap (x8_2 + (IntKind.u64.wrap ((IntKind.u64.wrap ((IntKind.u64.wrap ((rd l0 x19_1))) * (IntKind.u64.wrap (rd l1 x26_2)))) + (IntKind.u64.wrap (rd x5_2 (ji14))))))) % 4294967296)) x19_1 (rd l0 x19_1) ((IntKind.u64.wrap (x8_2 + (IntKind.u64.wrap ((IntKind.u64.wrap ((IntKind.u64.wrap ((rd l0 x19_1))) * (IntKind.u64.wrap (rd l1 x26_2)))) + (IntKind.u64.wrap (rd x5_2 (ji14))))))) / 4294967296) l0 (l0.length : Int) x19_1 l1 (l1.length : Int) (wrap64 (x26_2 + 1))) else (none)) else (none)) = some r := by first | (rw [hji14] at H; exact H) | (simp only [hji14] at H ⊢; exact H)
             have hji14w : (IntKind.i64.wrap (x19_1 + x26_2)) = ji14 := (i64_w _).trans hji14
             by_cases c15 : 0 ≤ (ji14)
             ·rw [if_pos c15] at H; have c15b0 : decide (0 ≤ (ji14)) = true := decide_eq_true c15; clear c15
              by_cases c16 : (ji14) < (x5_2.length : Int)
              ·rw [if_pos c16] at H; have c16b0 : decide ((ji14) < (x5_2.length : Int)) = true := decide_eq_true c16; clear c16; obtain ⟨y136, hy136⟩ : ∃ y_ : List Int, y_ = (x5_2.set ((ji14) : Int).toNat ((IntKind.u64.wrap (x8_2 + (IntKind.u64.wrap ((IntKind.u64.wrap ((IntKind.u64.wrap ((rd l0 x19_1))) * (IntKind.u64.wrap (rd l1 x26_2)))) + (IntKind.u64.wrap (rd x5_2 (ji14))))))) % 4294967296)) := ⟨_, rfl⟩; replace H : (num_mulMag.l1 k2 l1 y136 x19_1 (rd l0 x19_1) ((IntKind.u64.wrap (x8_2 + (IntKind.u64.wrap ((IntKind.u64.wrap ((IntKind.u64.wrap ((rd l0 x19_1))) * (IntKind.u64.wrap (rd l1 x26_2)))) + (IntKind.u64.wrap (rd x5_2 (ji14))))))) / 4294967296) l0 (l0.length : Int) x19_1 l1 (l1.length : Int) (wrap64 (x26_2 + 1))) = some r := by first | (rw [hy136]; with_reducible exact H) | (have H2_ := (Option.bind_some _ _).symm.trans H; rw [hy136]; with_reducible exact H2_) | (have H2_ := (Option.bind_some _ _).symm.trans H; with_reducible exact H2_) | with_reducible exact H | (rw [hy136]; exact H) | exact H
               have Ny136 := Aside0.mk hy136; clear hy136; have H' := Aside0.mk H; clear H; have p134 : 0 ≤ (x26_2 : Int) := od; have q134 : x26_2 < (l1.length : Int) := od; obtain ⟨ad134, e134, hx134_0⟩ := Kd.at_int HR1.out x26_2 p134 q134
               cases e134
               replace hx134_0 := cl HB hx134_0; replace p134 := eq_true p134; replace q134 := eq_true q134; obtain ⟨Ao18, co18, eo18⟩ := Kd.R_slice HO_5.out; subst eo18; have p135 : 0 ≤ ((ji14) : Int) := od; have q135 : (ji14) < (x5_2.length : Int) := od; obtain ⟨ad135, e135, hx135_0⟩ := Kd.at_int (Kd.R_reads' HO_5.out).2.2 (ji14) p135 q135
               cases e135
               replace p135 := eq_true p135; replace q135 := eq_true q135; have p17 : 0 ≤ ((ji14) : Int) := od; have q17 : ((ji14) : Int) < ((x5_2.length : Int) : Int) := od; obtain ⟨go17, co17, eo17, gb17, gl17, cl17, HG17⟩ := Kd.R_form HO_5.out (by omega)
               (first | cases eo17 | (injection eo17 with ea_ en_ ec_; (first | subst ea_ | (injection ea_ with ea_; subst ea_)); subst ec_; clear en_))
               have GB17 := Aside0.mk gb17; have GG17 := Aside0.mk HG17; clear gb17 gl17 HG17
               (first | simp only [add_plain] at hx135_0 | skip)
               obtain ⟨hx17_0, hf17_0⟩ := Kd.R_celln 0 HO_5.out ((ji14) : Int) p17 q17; replace p17 := eq_true p17; replace q17 := eq_true q17; have HP19 := Kd.R_putg HO_5.out ((ji14) : Int) ((IntKind.u64.wrap (x8_2 + (IntKind.u64.wrap ((IntKind.u64.wrap ((IntKind.u64.wrap ((rd l0 x19_1))) * (IntKind.u64.wrap (rd l1 x26_2)))) + (IntKind.u64.wrap (rd x5_2 (ji14))))))) % 4294967296)
               go_wp2_with (first | ((with_reducible refine gate_store (t := 147) (p := 52) rfl ?_); refine store_event (t := 147) (p := 52) (v := ?vo_w20) (w1 := (wr.setCell ⟨go17, ((ji14) : Int).toNat, none⟩ (.int .u32 ((IntKind.u64.wrap (x8_2 + (IntKind.u64.wrap ((IntKind.u64.wrap ((IntKind.u64.wrap ((rd l0 x19_1))) * (IntKind.u64.wrap (rd l1 x26_2)))) + (IntKind.u64.wrap (rd x5_2 (ji14))))))) % 4294967296)))) ?hg ?ho ?hn ?hr ?_; (case ho => rfl); (case hg => rfl); (case hn => rfl); (case hr => first | (go_simp; done) | (go_simp; rfl)); intro w20 hw; have hg : wr.grownBy w20 (some go17) := (by rw [hw]; exact HP19.2); have hp_ : Kd.R (Kd.int .u32) 147 w20 w.heap.size (fun k_ => (w.heap.size ≤ k_)) (.slice (some ⟨go17, 0, none⟩) x5_2.length co18) y136 := (by rw [hw, Ny136.out]; exact HP19.1); clear HP19; replace HO_5 := Aside0.mk (hp_); replace HB := Aside0.mk ((by rw [hw]; exact below_set (HB.out) GB17.out : Below w.heap.size w w20)); clear hg hw hp_))
               go_roundg k2
               case measure => have := HK1.out; have := HK2.out; omega
               case rel => exact ⟨(y136), ((IntKind.u64.wrap (x8_2 + (IntKind.u64.wrap ((IntKind.u64.wrap ((IntKind.u64.wrap ((rd l0 x19_1))) * (IntKind.u64.wrap (rd l1 x26_2)))) + (IntKind.u64.wrap (rd x5_2 (ji14))))))) / 4294967296), (wrap64 (x26_2 + 1)), (by first | rfl | (simp; done) | (simp only [← hji14] <;> (first | rfl | simp)) | (simp [*]; done)), jz, H', ⟨by have := HK1.out; have := HK2.out; omega⟩, ⟨rz HO_5⟩, ⟨bz⟩⟩
              ·rw [if_neg c16] at H
               exact absurd H (by simp)
             ·rw [if_neg c15] at H
              exact absurd H (by simp)
            ·rw [if_neg c13] at H
             exact absurd H (by simp)
           ·rw [if_neg c12] at H
            exact absurd H (by simp)
          ·rw [if_neg c11] at H; have c11b0 : decide (x26_2 < (l1.length : Int)) = false := decide_eq_false c11; clear c11; obtain ⟨ji21, hji21⟩ : ∃ j_ : Int, (wrap64 (x19_1 + (l1.length : Int))) = j_ := ⟨_, rfl⟩; replace H : (if 0 ≤ (ji21) then (if (ji21) < (x5_2.length : Int) then (num_mulMag.l0 k2 l1 (x5_2.set ((ji21) : Int).toNat ((x8_2) % 4294967296)) l0 (l0.length : Int) (wrap64 (x19_1 + 1))) else (none)) else (none)) = some r := by first | (rw [hji21] at H; exact H) | (simp only [hji21] at H ⊢; exact H)
           have hji21w : (IntKind.i64.wrap (x19_1 + (l1.length : Int))) = ji21 := (i64_w _).trans hji21
           by_cases c22 : 0 ≤ (ji21)
           ·rw [if_pos c22] at H; have c22b0 : decide (0 ≤ (ji21)) = true := decide_eq_true c22; clear c22
            by_cases c23 : (ji21) < (x5_2.length : Int)
            ·rw [if_pos c23] at H; have c23b0 : decide ((ji21) < (x5_2.length : Int)) = true := decide_eq_true c23; clear c23; obtain ⟨y137, hy137⟩ : ∃ y_ : List Int, y_ = (x5_2.set ((ji21) : Int).toNat ((x8_2) % 4294967296)) := ⟨_, rfl⟩; replace H : (num_mulMag.l0 k2 l1 y137 l0 (l0.length : Int) (wrap64 (x19_1 + 1))) = some r := by first | (rw [hy137]; with_reducible exact H) | (have H2_ := (Option.bind_some _ _).symm.trans H; rw [hy137]; with_reducible exact H2_) | (have H2_ := (Option.bind_some _ _).symm.trans H; with_reducible exact H2_) | with_reducible exact H | (rw [hy137]; exact H) | exact H
             have Ny137 := Aside0.mk hy137; clear hy137; have H' := Aside0.mk H; clear H; have p24 : 0 ≤ ((ji21) : Int) := od; have q24 : ((ji21) : Int) < ((x5_2.length : Int) : Int) := od; obtain ⟨go24, co24, eo24, gb24, gl24, cl24, HG24⟩ := Kd.R_form HO_5.out (by omega)
             (first | cases eo24 | (injection eo24 with ea_ en_ ec_; (first | subst ea_ | (injection ea_ with ea_; subst ea_)); subst ec_; clear en_))
             have GB24 := Aside0.mk gb24; have GG24 := Aside0.mk HG24; clear gb24 gl24 HG24; obtain ⟨hx24_0, hf24_0⟩ := Kd.R_celln 0 HO_5.out ((ji21) : Int) p24 q24; replace p24 := eq_true p24; replace q24 := eq_true q24; have HP25 := Kd.R_putg HO_5.out ((ji21) : Int) ((x8_2) % 4294967296)
             go_wp2_with (first | ((with_reducible refine gate_store (t := 147) (p := 63) rfl ?_); refine store_event (t := 147) (p := 63) (v := ?vo_w26) (w1 := (wr.setCell ⟨go24, ((ji21) : Int).toNat, none⟩ (.int .u32 ((x8_2) % 4294967296)))) ?hg ?ho ?hn ?hr ?_; (case ho => rfl); (case hg => rfl); (case hn => rfl); (case hr => first | (go_simp; done) | (go_simp; rfl)); intro w26 hw; have hg : wr.grownBy w26 (some go24) := (by rw [hw]; exact HP25.2); have hp_ : Kd.R (Kd.int .u32) 147 w26 w.heap.size (fun k_ => (w.heap.size ≤ k_)) (.slice (some ⟨go24, 0, none⟩) x5_2.length co24) y137 := (by rw [hw, Ny137.out]; exact HP25.1); clear HP25; replace HO_5 := Aside0.mk (hp_); replace HB := Aside0.mk ((by rw [hw]; exact below_set (HB.out) GB24.out : Below w.heap.size w w26)); clear hg hw hp_))
             go_roundg k2
             case measure => have := HK1.out; have := HK2.out; omega
             case rel => exact ⟨(y137), (wrap64 (x19_1 + 1)), jz, H', ⟨by have := HK1.out; have := HK2.out; omega⟩, ⟨rz HO_5⟩, ⟨bz⟩⟩
            ·rw [if_neg c23] at H
             exact absurd H (by simp)
           ·rw [if_neg c22] at H
            exact absurd H (by simp)
       ·rw [if_neg c10] at H
        exact absurd H (by simp)
      ·rw [if_neg c9] at H
       exact absurd H (by simp)
     ·rw [if_neg c8] at H; have c8b0 : decide (x19_1 < (l0.length : Int)) = false := decide_eq_false c8; clear c8; obtain ⟨t130, A27, H⟩ := ob H; obtain rfl := Option.some.inj H; obtain ⟨Ao28, co28, eo28⟩ := Kd.R_slice HO_5.out; subst eo28
      go_wp2_with (first | ((with_reducible refine gate_callee (f := 114) rfl ?_); refine zC 66 Try.func114 #[.slice Ao28 x5_1.length co28] ?_; (with_reducible refine (num_trim.calls k1 (fun k_ => some k_ = (.slice Ao28 x5_1.length co28 : Value).ownBlock) _ _ x5_1 t130 _ ?side1 A27.out).mono ?_); (case side1 => exact Kd.R_V (Kd.R_tight rfl (HO_5.out))); rintro e w29 ⟨v131, rfl, ho0, hb⟩; refine ⟨_, rfl, ?_⟩; have HO132 := Aside0.mk (Kd.V_lower (Kd.V_mono (ok' := fun k_ => (w.heap.size ≤ k_)) ho0 (fun k_ hk_ => Or.elim hk_ (fun hs_ => ((HO_5.out).1 k_ hs_.symm)) (fun hn_ => (Nat.le_trans sz hn_)))) sz); replace HO_5 := Aside0.mk (Kd.R_below (rz HO_5) hb); replace HB := bp hb; clear hb ho0))
      go_ret
      exact ⟨_, by first | rfl | (simp [errW_none, errW_some] <;> rfl) | (simp only [← hji3]; first | rfl | (simp [errW_none, errW_some] <;> rfl)) | (simp [*, errW_none, errW_some] <;> rfl), by (with_reducible repeat (first | apply Kd.V_alloc | apply Kd.V_drewN | apply Kd.V_drew)); exact HO132.out, bz⟩
  ·rw [if_neg c5] at H
   exact absurd H (by simp)
 ·rw [if_neg c4] at H
  exact absurd H (by simp)
end Go.Proofs.Ytknklchmpohjfaa.P
namespace Go.Proofs.Ytknklchmpohjfaa.Mn
open Go.Proofs.YtknklchmpohjfaaW.PrintWords Go.Proofs.Ytknklchmpohjfaa.Ml Go.Proofs.Ytknklchmpohjfaa.P
open Go.RowKit (wrap64)
set_option linter.unusedVariables false
set_option linter.unusedSimpArgs false
theorem w64 {x : Int} (h0 : -9223372036854775808 ≤ x) (h1 : x ≤ 9223372036854775807) : wrap64 x = x := by
 unfold wrap64; omega
theorem u64 {x : Int} (h0 : 0 ≤ x) (h1 : x < 18446744073709551616) : IntKind.u64.wrap x = x := by
 show x % 18446744073709551616 = x
 exact Int.emod_eq_of_lt h0 h1
theorem u64m (x : Int) : IntKind.u64.wrap x = x % 18446744073709551616 := rfl
theorem rd_nat (l : List Int) (i : Nat) : rd l (i : Int) = l.getD i 0 := by simp [rd]
theorem trim_l : ∀ (n : Nat) (l : List Int), l.length = n → Dg 4294967296 l → n ≤ 1099511627776 → ∀ k, n < k → ∃ r, num_trim.l0 k l = some r ∧ Cn 4294967296 r ∧ dv 4294967296 r = dv 4294967296 l ∧ r.length ≤ n := by
 intro n
 induction n with
 | zero =>
  intro l hl hd _ k hk
  obtain ⟨k, rfl⟩ : ∃ m, k = m + 1 := ⟨k - 1, by omega⟩
  have e : l = [] := List.eq_nil_of_length_eq_zero hl
  subst e
  exact ⟨[], by simp only [num_trim.l0]; rw [if_neg (by simp)], Cn.nil 4294967296, rfl, by simp⟩
 | succ n ih =>
  intro l hl hd hn k hk
  obtain ⟨k, rfl⟩ : ∃ m, k = m + 1 := ⟨k - 1, by omega⟩
  have e1 : wrap64 ((l.length : Int) - 1) = (n : Int) := by rw [w64 (by omega) (by omega)]; omega
  simp only [num_trim.l0, e1, rd_nat, Int.toNat_natCast]
  rw [if_pos (by omega), if_pos (by omega), if_pos (by omega)]
  by_cases h0 : l.getD n 0 = 0
  ·rw [if_pos h0, if_pos (by omega)]
   obtain ⟨r, h1, h2, h3, h4⟩ := ih (l.take n) (by simp; omega) (hd.take n) (by omega) k (by omega)
   have h5 := dv_take_succ 4294967296 l n (by omega)
   rw [List.take_of_length_le (by omega), h0] at h5
   exact ⟨r, h1, h2, by rw [h3, h5]; omega, by omega⟩
  ·rw [if_neg h0]
   exact ⟨l, rfl, ⟨hd, top_of_getD (by rw [hl]; exact h0)⟩, rfl, by omega⟩
theorem trim_f (l : List Int) (hd : Dg 4294967296 l) (hn : l.length ≤ 1099511627776) (k : Nat) (hk : l.length < k) : ∃ r, num_trim.f k l = some r ∧ Cn 4294967296 r ∧ dv 4294967296 r = dv 4294967296 l ∧ r.length ≤ l.length :=
 trim_l l.length l rfl hd hn k hk
theorem magOf_f (v : Int) (h0 : 0 ≤ v) (h1 : v < 18446744073709551616) : ∃ r, num_magOf.f 3 v = some r ∧ Cn 4294967296 r ∧ dv 4294967296 r = v ∧ r.length ≤ 2 := by
 have hd : Dg 4294967296 [v % 4294967296, (v / 4294967296) % 4294967296] := by
  refine Dg.cons ?_ ?_ (Dg.cons ?_ ?_ (Dg.nil 4294967296)) <;> omega
 obtain ⟨r, h2, h3, h4, h5⟩ := trim_f _ hd (by simp) 3 (by simp)
 refine ⟨r, ?_, h3, ?_, by simpa using h5⟩
 ·unfold num_magOf.f
  rw [h2]
  rfl
 ·rw [h4]
  simp only [dv]
  omega
def Sg (c a b : Int) : Prop := (c < 0 ↔ a < b) ∧ (c = 0 ↔ a = b) ∧ (0 < c ↔ b < a)
theorem cmp_l (a b : List Int) (ha : Dg 4294967296 a) (hb : Dg 4294967296 b) (hl : a.length = b.length) (hn : a.length ≤ 1099511627776) : ∀ (i : Nat), i ≤ a.length → dv 4294967296 (a.drop i) = dv 4294967296 (b.drop i) → ∀ k, i < k →
  ∃ c, num_cmpMag.l0 k a b ((i : Int) - 1) = some c ∧ Sg c (dv 4294967296 a) (dv 4294967296 b) ∧ -1 ≤ c ∧ c ≤ 1 := by
 intro i
 induction i with
 | zero =>
  intro _ hs k hk
  obtain ⟨k, rfl⟩ : ∃ m, k = m + 1 := ⟨k - 1, by omega⟩
  refine ⟨0, ?_, ?_, by omega, by omega⟩
  ·simp only [num_cmpMag.l0]
   rw [if_neg (by omega)]
  ·simp only [List.drop_zero] at hs
   unfold Sg
   omega
 | succ i ih =>
  intro hi hs k hk
  obtain ⟨k, rfl⟩ : ∃ m, k = m + 1 := ⟨k - 1, by omega⟩
  have e1 : (((i + 1 : Nat) : Int) - 1) = (i : Int) := by omega
  have e2 : wrap64 ((i : Int) - 1) = (i : Int) - 1 := w64 (by omega) (by omega)
  rw [e1]
  simp only [num_cmpMag.l0, rd_nat, e2]
  rw [if_pos (by omega), if_pos (by omega), if_pos (by omega), if_pos (by omega)]
  have e3 := dv_drop 4294967296 a i (by omega)
  have e4 := dv_drop 4294967296 b i (by omega)
  by_cases h0 : a.getD i 0 = b.getD i 0
  ·rw [if_pos h0]
   exact ih (by omega) (by rw [e3, e4, hs, h0]) k (by omega)
  ·rw [if_neg h0]
   by_cases h1 : a.getD i 0 < b.getD i 0
   ·rw [if_pos h1]
    have := dv_less (by decide) ha hb hl i (by omega) hs h1
    exact ⟨-1, rfl, by unfold Sg; omega, by omega, by omega⟩
   ·rw [if_neg h1]
    have := dv_less (by decide) hb ha hl.symm i (by omega) hs.symm (by omega)
    exact ⟨1, rfl, by unfold Sg; omega, by omega, by omega⟩
theorem cmp_f (a b : List Int) (ha : Cn 4294967296 a) (hb : Cn 4294967296 b) (hn : a.length ≤ 1099511627776) (hm : b.length ≤ 1099511627776) (k : Nat) (hk : a.length < k) :
  ∃ c, num_cmpMag.f k a b = some c ∧ Sg c (dv 4294967296 a) (dv 4294967296 b) ∧ -1099511627776 ≤ c ∧ c ≤ 1099511627776 := by
 unfold num_cmpMag.f
 by_cases hl : (a.length : Int) = b.length
 ·rw [if_pos hl, w64 (by omega) (by omega)]
  obtain ⟨c, h1, h2, h3, h4⟩ := cmp_l a b ha.dg hb.dg (by omega) hn a.length (Nat.le_refl _) (by rw [List.drop_of_length_le (Nat.le_refl _), List.drop_of_length_le (by omega)]) k hk
  exact ⟨c, h1, h2, by omega, by omega⟩
 ·rw [if_neg hl, w64 (by omega) (by omega)]
  refine ⟨_, rfl, ?_, by omega, by omega⟩
  rcases Nat.lt_or_ge a.length b.length with h | h
  ·have := dv_len (by decide) ha.dg hb h
   unfold Sg
   omega
  ·have := dv_len (by decide) hb.dg ha (by omega)
   unfold Sg
   omega
theorem mul_step {o0 c x y D P r q o B : Int} (h : r + B * q = c + (x * y + o)) : o0 + c * P + x * (y + B * D) * P = o0 + (r - o) * P + q * (P * B) + x * D * (P * B) := by
 have h1 : (r + B * q) * P = (c + (x * y + o)) * P := by rw [h]
 grind
theorem mul_num {c x y o : Int} (hc0 : 0 ≤ c) (hc1 : c < 4294967296) (hx0 : 0 ≤ x) (hx1 : x < 4294967296) (hy0 : 0 ≤ y) (hy1 : y < 4294967296) (ho0 : 0 ≤ o) (ho1 : o < 4294967296) :
  ∃ r q, IntKind.u64.wrap (c + IntKind.u64.wrap (IntKind.u64.wrap (IntKind.u64.wrap x * IntKind.u64.wrap y) + IntKind.u64.wrap o)) % 4294967296 = r ∧
   IntKind.u64.wrap (c + IntKind.u64.wrap (IntKind.u64.wrap (IntKind.u64.wrap x * IntKind.u64.wrap y) + IntKind.u64.wrap o)) / 4294967296 = q ∧ 0 ≤ r ∧ r < 4294967296 ∧ 0 ≤ q ∧ q < 4294967296 ∧ r + 4294967296 * q = c + (x * y + o) := by
 have hxy := mul_lt_sq hx0 hx1 hy0 hy1
 rw [u64 (x := x) (by omega) (by omega), u64 (x := y) (by omega) (by omega), u64 (x := o) (by omega) (by omega)]
 generalize x * y = xy at *
 rw [u64 (x := xy) (by omega) (by omega), u64 (x := xy + o) (by omega) (by omega), u64 (x := c + (xy + o)) (by omega) (by omega)]
 exact ⟨_, _, rfl, rfl, by omega, by omega, by omega, by omega, by omega⟩
theorem wadd {i j : Nat} (h : i + j ≤ 2199023255552) : wrap64 ((i : Int) + (j : Int)) = ((i + j : Nat) : Int) := by rw [w64 (by omega) (by omega)]; omega
theorem wsucc {i : Nat} (h : i ≤ 2199023255552) : wrap64 ((i : Int) + 1) = ((i + 1 : Nat) : Int) := by rw [w64 (by omega) (by omega)]; omega
theorem mul_l1 (a b : List Int) (i : Nat) (x : Int) (hb : Dg 4294967296 b) (hx0 : 0 ≤ x) (hx1 : x < 4294967296) (hn : i + b.length ≤ 1099511627776) :
  ∀ (d j : Nat) (out : List Int) (c : Int), j + d = b.length → Dg 4294967296 out → 0 ≤ c → c < 4294967296 → i + b.length < out.length → out.getD (i + b.length) 0 = 0 →
  ∃ out', (∀ k, num_mulMag.l1 (k + d + 1) b out i x c a a.length i b b.length j = num_mulMag.l0 k b out' a a.length ((i : Int) + 1)) ∧ out'.length = out.length ∧ Dg 4294967296 out' ∧
   dv 4294967296 out' = dv 4294967296 out + c * pw 4294967296 (i + j) + x * dv 4294967296 (b.drop j) * pw 4294967296 (i + j) ∧ ∀ m, i + 1 + b.length ≤ m → out'.getD m 0 = out.getD m 0 := by
 intro d
 induction d with
 | zero =>
  intro j out c hj ho hc0 hc1 hl hz
  refine ⟨out.set (i + b.length) c, fun k => ?_, by simp, ho.set _ hc0 hc1, ?_, fun m hm => getD_set (by omega)⟩
  ·have e1 : wrap64 ((i : Int) + (b.length : Int)) = ((i + b.length : Nat) : Int) := wadd (by omega)
   have e2 : c % 4294967296 = c := Int.emod_eq_of_lt hc0 hc1
   have e3 : wrap64 ((i : Int) + 1) = (i : Int) + 1 := w64 (by omega) (by omega)
   simp only [num_mulMag.l1, e1, e2, e3, Int.toNat_natCast]
   rw [if_neg (by omega), if_pos (by omega), if_pos (by omega)]
  ·have e : j = b.length := by omega
   subst e
   rw [dv_set _ _ _ _ hl, hz, List.drop_of_length_le (Nat.le_refl _), dv_nil]
   simp
 | succ d ih =>
  intro j out c hj ho hc0 hc1 hl hz
  have hy := hb.getD (by decide) j
  have ho' := ho.getD (by decide) (i + j)
  generalize hyv : b.getD j 0 = y at hy
  generalize hov : out.getD (i + j) 0 = o at ho'
  obtain ⟨r, q, hr, hq, hr0, hr1, hq0, hq1, hs⟩ := mul_num hc0 hc1 hx0 hx1 hy.1 hy.2 ho'.1 ho'.2
  obtain ⟨out', h1, h2, h3, h4, h5⟩ := ih (j + 1) (out.set (i + j) r) q (by omega) (ho.set _ hr0 hr1) hq0 hq1 (by simpa using hl) (by rw [getD_set (by omega)]; exact hz)
  refine ⟨out', fun k => ?_, by simpa using h2, h3, ?_, fun m hm => by rw [h5 m hm, getD_set (by omega)]⟩
  ·have e4 : k + (d + 1) + 1 = (k + d + 1) + 1 := by omega
   rw [e4]
   simp only [num_mulMag.l1, wadd (show i + j ≤ 2199023255552 by omega), wsucc (show j ≤ 2199023255552 by omega), rd_nat, Int.toNat_natCast]
   clear hs hr0 hr1 hq0 hq1
   rw [if_pos (by omega), if_pos (by omega), if_pos (by omega), if_pos (by omega), if_pos (by omega), hyv, hov, hr, hq]
   exact h1 k
  ·rw [h4, dv_set _ _ _ _ (by omega), hov, dv_drop 4294967296 b j (by omega), hyv, ← Nat.add_assoc, pw_succ]
   exact (mul_step hs).symm
theorem mul_l0 (a b : List Int) (ha : Dg 4294967296 a) (hb : Dg 4294967296 b) (hn : a.length + b.length ≤ 1099511627776) :
  ∀ (d i : Nat) (out : List Int), i + d = a.length → Dg 4294967296 out → out.length = a.length + b.length → dv 4294967296 out = dv 4294967296 (a.take i) * dv 4294967296 b → (∀ m, i + b.length ≤ m → out.getD m 0 = 0) →
  ∀ k, a.length + b.length < k → ∃ r, num_mulMag.l0 (k + d * (b.length + 2) + 1) b out a a.length i = some r ∧ Cn 4294967296 r ∧ dv 4294967296 r = dv 4294967296 a * dv 4294967296 b ∧ r.length ≤ a.length + b.length := by
 intro d
 induction d with
 | zero =>
  intro i out hi ho hl hv hz k hk
  obtain ⟨r, h1, h2, h3, h4⟩ := trim_f out ho (by omega) k (by omega)
  refine ⟨r, ?_, h2, ?_, by omega⟩
  ·simp only [Nat.zero_mul, Nat.add_zero, num_mulMag.l0]
   rw [if_neg (by omega), h1]
   rfl
  ·rw [h3, hv, List.take_of_length_le (by omega)]
 | succ d ih =>
  intro i out hi ho hl hv hz k hk
  have hx := ha.getD (by decide) i
  obtain ⟨out', h1, h2, h3, h4, h5⟩ := mul_l1 a b i (a.getD i 0) hb hx.1 hx.2 (by omega) b.length 0 out 0 (by omega) ho (by omega) (by omega) (by omega) (hz _ (Nat.le_refl _))
  obtain ⟨r, h6, h7, h8, h9⟩ := ih (i + 1) out' (by omega) h3 (by omega) (by
   rw [h4, hv, dv_take_succ' _ a i]
   simp only [List.drop_zero, Nat.add_zero]
   grind) (fun m hm => by rw [h5 m (by omega)]; exact hz m (by omega)) k hk
  refine ⟨r, ?_, h7, h8, h9⟩
  have e1 : k + (d + 1) * (b.length + 2) + 1 = (k + d * (b.length + 2) + 1 + b.length + 1) + 1 := by
   rw [Nat.add_mul]
   omega
  rw [e1]
  simp only [num_mulMag.l0, rd_nat]
  rw [if_pos (by omega), if_pos (by omega), if_pos (by omega)]
  exact (h1 _).trans h6
theorem mul_f (a b : List Int) (ha : Dg 4294967296 a) (hb : Dg 4294967296 b) (hn : a.length + b.length ≤ 1099511627776) :
  ∃ k r, num_mulMag.f k a b = some r ∧ Cn 4294967296 r ∧ dv 4294967296 r = dv 4294967296 a * dv 4294967296 b ∧ r.length ≤ a.length + b.length := by
 have e1 : wrap64 ((a.length : Int) + (b.length : Int)) = ((a.length + b.length : Nat) : Int) := by rw [w64 (by omega) (by omega)]; omega
 obtain ⟨r, h⟩ := mul_l0 a b ha hb hn a.length 0 (List.replicate (a.length + b.length) 0) (by omega) (Dg.replicate (by decide) _) (by simp) (by rw [dv_replicate]; simp [dv]) (fun m _ => by
  rw [List.getD_eq_getElem?_getD, List.getElem?_replicate]
  split <;> rfl) (a.length + b.length + 1) (by omega)
 refine ⟨a.length + b.length + 1 + a.length * (b.length + 2) + 1, r, ?_, h.2⟩
 unfold num_mulMag.f
 rw [e1, Int.toNat_natCast, if_pos (by omega), if_pos (by omega)]
 exact h.1
end Go.Proofs.Ytknklchmpohjfaa.Mn
namespace Go.Proofs.Ytknklchmpohjfaa.E
open Go.Proofs.Ytknklchmpohjfaa.Z Go.RowKit Go.Proofs.YtknklchmpohjfaaW.PrintWords Go.Proofs.YtknklchmpohjfaaW.PrintLast Go.Proofs.YtknklchmpohjfaaW.PrintMore
attribute [local go_sem] max2_int min2_int max_two min_two max_three min_three max_four min_four
set_option linter.unusedVariables false
set_option linter.unusedSimpArgs false
def errW : Option Int → Value
 | none => .nilIface
 | some c => .iface 0 (.int .i64 c)
theorem errW_none : errW none = .nilIface := rfl
theorem errW_some (c : Int) : errW (some c) = .iface 0 (.int .i64 c) := rfl
theorem info3 : (Try.prog.info? 3).map (fun i => (i.zero, i.size, i.bytes)) = some (some (.int .i64 0), 1, 8) := by kernel_rfl
structure S86 where
 f0 : Int
 f1 : Int
 f2 : Int
 f3 : Int
def z86 : S86 := ⟨(0 : Int), (0 : Int), (0 : Int), (0 : Int)⟩
def k86 : Kd S86 := Kd.iso (Kd.pair (Kd.int .i64) (Kd.pair (Kd.int .i64) (Kd.pair (Kd.int .i64) (Kd.int .i64)))) (fun x : S86 => (x.f0, x.f1, x.f2, x.f3))
theorem k86_open {w : World} {x : S86} {cs : List Value} (h : k86.K w x cs) : cs = [.int .i64 x.f0, .int .i64 x.f1, .int .i64 x.f2, .int .i64 x.f3] := by
 obtain ⟨_, _, rfl, rfl, ⟨_, _, rfl, rfl, ⟨_, _, rfl, rfl, rfl⟩⟩⟩ := h
 exact rfl
def rd_T86 (xs : List S86) (i : Int) : S86 := xs.getD i.toNat z86
theorem at_T86 {w : World} {A : Option Addr} {n : Nat} {xs : List S86} (h : Kd.C k86 w A n xs) (i : Int) (h0 : 0 ≤ i) (h1 : i < n) : ∃ ad , A = some ad ∧ w.cell? (ad.add (i.toNat * 4)) = some (.int .i64 (rd_T86 xs i).f0) ∧ w.cell? ⟨(ad.add (i.toNat * 4)).block, (ad.add (i.toNat * 4)).off + 1, none⟩ = some (.int .i64 (rd_T86 xs i).f1) ∧ w.cell? ⟨(ad.add (i.toNat * 4)).block, (ad.add (i.toNat * 4)).off + 2, none⟩ = some (.int .i64 (rd_T86 xs i).f2) ∧ w.cell? ⟨(ad.add (i.toNat * 4)).block, (ad.add (i.toNat * 4)).off + 3, none⟩ = some (.int .i64 (rd_T86 xs i).f3) := by
 obtain ⟨ad, c, e, _, hK, hc0⟩ := Kd.C_get h z86 i h0 h1
 have hc : ∀ j u, c[j]? = some u → w.cell? (ad.add (i.toNat * 4 + j)) = some u := hc0
 obtain rfl := k86_open hK
 exact ⟨ad, e, hc 0 _ rfl, by rw [← add_field _ _ 1 (by omega)]; exact hc 1 _ rfl, by rw [← add_field _ _ 2 (by omega)]; exact hc 2 _ rfl, by rw [← add_field _ _ 3 (by omega)]; exact hc 3 _ rfl⟩
structure S68 where
 f0 : ByteArray
 f1 : Int
def z68 : S68 := ⟨(⟨#[]⟩ : ByteArray), (0 : Int)⟩
def k68 : Kd S68 := Kd.iso (Kd.pair Kd.string (Kd.int .i64)) (fun x : S68 => (x.f0, x.f1))
theorem k68_open {w : World} {x : S68} {cs : List Value} (h : k68.K w x cs) : cs = [.string x.f0, .int .i64 x.f1] := by
 obtain ⟨_, _, rfl, rfl, rfl⟩ := h
 exact rfl
def rd_T68 (xs : List S68) (i : Int) : S68 := xs.getD i.toNat z68
theorem at_T68 {w : World} {A : Option Addr} {n : Nat} {xs : List S68} (h : Kd.C k68 w A n xs) (i : Int) (h0 : 0 ≤ i) (h1 : i < n) : ∃ ad , A = some ad ∧ w.cell? (ad.add (i.toNat * 2)) = some (.string (rd_T68 xs i).f0) ∧ w.cell? ⟨(ad.add (i.toNat * 2)).block, (ad.add (i.toNat * 2)).off + 1, none⟩ = some (.int .i64 (rd_T68 xs i).f1) := by
 obtain ⟨ad, c, e, _, hK, hc0⟩ := Kd.C_get h z68 i h0 h1
 have hc : ∀ j u, c[j]? = some u → w.cell? (ad.add (i.toNat * 2 + j)) = some u := hc0
 obtain rfl := k68_open hK
 exact ⟨ad, e, hc 0 _ rfl, by rw [← add_field _ _ 1 (by omega)]; exact hc 1 _ rfl⟩
structure S51 where
 f0 : Int
 f1 : Int
 f2 : Int
 f3 : Bool
 f4 : (List Int)
 f5 : (List Int)
def z51 : S51 := ⟨(0 : Int), (0 : Int), (0 : Int), false, ([] : List Int), ([] : List Int)⟩
def k51 : Kd S51 := Kd.iso (Kd.pair (Kd.int .i64) (Kd.pair (Kd.int .i64) (Kd.pair (Kd.int .i64) (Kd.pair Kd.bool (Kd.pair (Kd.slice 3 (Kd.int .i64)) (Kd.slice 5 (Kd.int .u8))))))) (fun x : S51 => (x.f0, x.f1, x.f2, x.f3, x.f4, x.f5))
theorem k51_open {w : World} {x : S51} {cs : List Value} (h : k51.K w x cs) : ∃ A4 c4 A5 c5, cs = [.int .i64 x.f0, .int .i64 x.f1, .int .i64 x.f2, .bool x.f3, .slice A4 x.f4.length c4, .slice A5 x.f5.length c5] ∧ x.f4.length ≤ c4 ∧ (Kd.int .i64).C w A4 x.f4.length x.f4 ∧ x.f5.length ≤ c5 ∧ (Kd.int .u8).C w A5 x.f5.length x.f5 := by
 obtain ⟨_, _, rfl, rfl, ⟨_, _, rfl, rfl, ⟨_, _, rfl, rfl, ⟨_, _, rfl, rfl, ⟨_, _, rfl, ⟨A4, c4, rfl, l4, g4⟩, ⟨A5, c5, rfl, l5, g5⟩⟩⟩⟩⟩⟩ := h
 exact ⟨A4, c4, A5, c5, rfl, l4, g4, l5, g5⟩
theorem k51_mk (w : World) (x : S51) {A4 : Option Addr} {c4 : Nat} (l4 : x.f4.length ≤ c4) (g4 : (Kd.int .i64).C w A4 x.f4.length x.f4) {A5 : Option Addr} {c5 : Nat} (l5 : x.f5.length ≤ c5) (g5 : (Kd.int .u8).C w A5 x.f5.length x.f5) : k51.K w x [.int .i64 x.f0, .int .i64 x.f1, .int .i64 x.f2, .bool x.f3, .slice A4 x.f4.length c4, .slice A5 x.f5.length c5] := ⟨[.int .i64 x.f0], [.int .i64 x.f1, .int .i64 x.f2, .bool x.f3, .slice A4 x.f4.length c4, .slice A5 x.f5.length c5], rfl, rfl, ⟨[.int .i64 x.f1], [.int .i64 x.f2, .bool x.f3, .slice A4 x.f4.length c4, .slice A5 x.f5.length c5], rfl, rfl, ⟨[.int .i64 x.f2], [.bool x.f3, .slice A4 x.f4.length c4, .slice A5 x.f5.length c5], rfl, rfl, ⟨[.bool x.f3], [.slice A4 x.f4.length c4, .slice A5 x.f5.length c5], rfl, rfl, ⟨[.slice A4 x.f4.length c4], [.slice A5 x.f5.length c5], rfl, ⟨A4, c4, rfl, l4, g4⟩, ⟨A5, c5, rfl, l5, g5⟩⟩⟩⟩⟩⟩
def rd_T51 (xs : List S51) (i : Int) : S51 := xs.getD i.toNat z51
theorem at_T51 {w : World} {A : Option Addr} {n : Nat} {xs : List S51} (h : Kd.C k51 w A n xs) (i : Int) (h0 : 0 ≤ i) (h1 : i < n) : ∃ ad A4 c4 A5 c5, A = some ad ∧ w.cell? (ad.add (i.toNat * 6)) = some (.int .i64 (rd_T51 xs i).f0) ∧ w.cell? ⟨(ad.add (i.toNat * 6)).block, (ad.add (i.toNat * 6)).off + 1, none⟩ = some (.int .i64 (rd_T51 xs i).f1) ∧ w.cell? ⟨(ad.add (i.toNat * 6)).block, (ad.add (i.toNat * 6)).off + 2, none⟩ = some (.int .i64 (rd_T51 xs i).f2) ∧ w.cell? ⟨(ad.add (i.toNat * 6)).block, (ad.add (i.toNat * 6)).off + 3, none⟩ = some (.bool (rd_T51 xs i).f3) ∧ w.cell? ⟨(ad.add (i.toNat * 6)).block, (ad.add (i.toNat * 6)).off + 4, none⟩ = some (.slice A4 (rd_T51 xs i).f4.length c4) ∧ w.cell? ⟨(ad.add (i.toNat * 6)).block, (ad.add (i.toNat * 6)).off + 5, none⟩ = some (.slice A5 (rd_T51 xs i).f5.length c5) ∧ (rd_T51 xs i).f4.length ≤ c4 ∧ (Kd.int .i64).C w A4 (rd_T51 xs i).f4.length (rd_T51 xs i).f4 ∧ (rd_T51 xs i).f5.length ≤ c5 ∧ (Kd.int .u8).C w A5 (rd_T51 xs i).f5.length (rd_T51 xs i).f5 := by
 obtain ⟨ad, c, e, _, hK, hc0⟩ := Kd.C_get h z51 i h0 h1
 have hc : ∀ j u, c[j]? = some u → w.cell? (ad.add (i.toNat * 6 + j)) = some u := hc0
 obtain ⟨A4, c4, A5, c5, rfl, l4, g4, l5, g5⟩ := k51_open hK
 exact ⟨ad, A4, c4, A5, c5, e, hc 0 _ rfl, by rw [← add_field _ _ 1 (by omega)]; exact hc 1 _ rfl, by rw [← add_field _ _ 2 (by omega)]; exact hc 2 _ rfl, by rw [← add_field _ _ 3 (by omega)]; exact hc 3 _ rfl, by rw [← add_field _ _ 4 (by omega)]; exact hc 4 _ rfl, by rw [← add_field _ _ 5 (by omega)]; exact hc 5 _ rfl, l4, g4, l5, g5⟩
structure S40 where
 f0 : Int
 f1 : Int
 f2 : ByteArray
 f3 : Int
 f4 : (List Int)
 f5 : ByteArray
 f6 : ByteArray
 f7 : Int
 f8 : (List S86)
 f9 : (List S68)
 f10 : (List S51)
def z40 : S40 := ⟨(0 : Int), (0 : Int), (⟨#[]⟩ : ByteArray), (0 : Int), ([] : List Int), (⟨#[]⟩ : ByteArray), (⟨#[]⟩ : ByteArray), (0 : Int), ([] : List S86), ([] : List S68), ([] : List S51)⟩
def k40 : Kd S40 := Kd.iso (Kd.pair (Kd.int .i64) (Kd.pair (Kd.int .i64) (Kd.pair Kd.string (Kd.pair (Kd.int .i64) (Kd.pair (Kd.slice 5 (Kd.int .u8)) (Kd.pair Kd.string (Kd.pair Kd.string (Kd.pair (Kd.int .i64) (Kd.pair (Kd.slice 86 k86) (Kd.pair (Kd.slice 68 k68) (Kd.slice 51 k51))))))))))) (fun x : S40 => (x.f0, x.f1, x.f2, x.f3, x.f4, x.f5, x.f6, x.f7, x.f8, x.f9, x.f10))
theorem k40_open {w : World} {x : S40} {cs : List Value} (h : k40.K w x cs) : ∃ A4 c4 A8 c8 A9 c9 A10 c10, cs = [.int .i64 x.f0, .int .i64 x.f1, .string x.f2, .int .i64 x.f3, .slice A4 x.f4.length c4, .string x.f5, .string x.f6, .int .i64 x.f7, .slice A8 x.f8.length c8, .slice A9 x.f9.length c9, .slice A10 x.f10.length c10] ∧ x.f4.length ≤ c4 ∧ (Kd.int .u8).C w A4 x.f4.length x.f4 ∧ x.f8.length ≤ c8 ∧ k86.C w A8 x.f8.length x.f8 ∧ x.f9.length ≤ c9 ∧ k68.C w A9 x.f9.length x.f9 ∧ x.f10.length ≤ c10 ∧ k51.C w A10 x.f10.length x.f10 := by
 obtain ⟨_, _, rfl, rfl, ⟨_, _, rfl, rfl, ⟨_, _, rfl, rfl, ⟨_, _, rfl, rfl, ⟨_, _, rfl, ⟨A4, c4, rfl, l4, g4⟩, ⟨_, _, rfl, rfl, ⟨_, _, rfl, rfl, ⟨_, _, rfl, rfl, ⟨_, _, rfl, ⟨A8, c8, rfl, l8, g8⟩, ⟨_, _, rfl, ⟨A9, c9, rfl, l9, g9⟩, ⟨A10, c10, rfl, l10, g10⟩⟩⟩⟩⟩⟩⟩⟩⟩⟩⟩ := h
 exact ⟨A4, c4, A8, c8, A9, c9, A10, c10, rfl, l4, g4, l8, g8, l9, g9, l10, g10⟩
theorem k40_mk (w : World) (x : S40) {A4 : Option Addr} {c4 : Nat} (l4 : x.f4.length ≤ c4) (g4 : (Kd.int .u8).C w A4 x.f4.length x.f4) {A8 : Option Addr} {c8 : Nat} (l8 : x.f8.length ≤ c8) (g8 : k86.C w A8 x.f8.length x.f8) {A9 : Option Addr} {c9 : Nat} (l9 : x.f9.length ≤ c9) (g9 : k68.C w A9 x.f9.length x.f9) {A10 : Option Addr} {c10 : Nat} (l10 : x.f10.length ≤ c10) (g10 : k51.C w A10 x.f10.length x.f10) : k40.K w x [.int .i64 x.f0, .int .i64 x.f1, .string x.f2, .int .i64 x.f3, .slice A4 x.f4.length c4, .string x.f5, .string x.f6, .int .i64 x.f7, .slice A8 x.f8.length c8, .slice A9 x.f9.length c9, .slice A10 x.f10.length c10] := ⟨[.int .i64 x.f0], [.int .i64 x.f1, .string x.f2, .int .i64 x.f3, .slice A4 x.f4.length c4, .string x.f5, .string x.f6, .int .i64 x.f7, .slice A8 x.f8.length c8, .slice A9 x.f9.length c9, .slice A10 x.f10.length c10], rfl, rfl, ⟨[.int .i64 x.f1], [.string x.f2, .int .i64 x.f3, .slice A4 x.f4.length c4, .string x.f5, .string x.f6, .int .i64 x.f7, .slice A8 x.f8.length c8, .slice A9 x.f9.length c9, .slice A10 x.f10.length c10], rfl, rfl, ⟨[.string x.f2], [.int .i64 x.f3, .slice A4 x.f4.length c4, .string x.f5, .string x.f6, .int .i64 x.f7, .slice A8 x.f8.length c8, .slice A9 x.f9.length c9, .slice A10 x.f10.length c10], rfl, rfl, ⟨[.int .i64 x.f3], [.slice A4 x.f4.length c4, .string x.f5, .string x.f6, .int .i64 x.f7, .slice A8 x.f8.length c8, .slice A9 x.f9.length c9, .slice A10 x.f10.length c10], rfl, rfl, ⟨[.slice A4 x.f4.length c4], [.string x.f5, .string x.f6, .int .i64 x.f7, .slice A8 x.f8.length c8, .slice A9 x.f9.length c9, .slice A10 x.f10.length c10], rfl, ⟨A4, c4, rfl, l4, g4⟩, ⟨[.string x.f5], [.string x.f6, .int .i64 x.f7, .slice A8 x.f8.length c8, .slice A9 x.f9.length c9, .slice A10 x.f10.length c10], rfl, rfl, ⟨[.string x.f6], [.int .i64 x.f7, .slice A8 x.f8.length c8, .slice A9 x.f9.length c9, .slice A10 x.f10.length c10], rfl, rfl, ⟨[.int .i64 x.f7], [.slice A8 x.f8.length c8, .slice A9 x.f9.length c9, .slice A10 x.f10.length c10], rfl, rfl, ⟨[.slice A8 x.f8.length c8], [.slice A9 x.f9.length c9, .slice A10 x.f10.length c10], rfl, ⟨A8, c8, rfl, l8, g8⟩, ⟨[.slice A9 x.f9.length c9], [.slice A10 x.f10.length c10], rfl, ⟨A9, c9, rfl, l9, g9⟩, ⟨A10, c10, rfl, l10, g10⟩⟩⟩⟩⟩⟩⟩⟩⟩⟩⟩
def rd_T40 (xs : List S40) (i : Int) : S40 := xs.getD i.toNat z40
theorem at_T40 {w : World} {A : Option Addr} {n : Nat} {xs : List S40} (h : Kd.C k40 w A n xs) (i : Int) (h0 : 0 ≤ i) (h1 : i < n) : ∃ ad A4 c4 A8 c8 A9 c9 A10 c10, A = some ad ∧ w.cell? (ad.add (i.toNat * 11)) = some (.int .i64 (rd_T40 xs i).f0) ∧ w.cell? ⟨(ad.add (i.toNat * 11)).block, (ad.add (i.toNat * 11)).off + 1, none⟩ = some (.int .i64 (rd_T40 xs i).f1) ∧ w.cell? ⟨(ad.add (i.toNat * 11)).block, (ad.add (i.toNat * 11)).off + 2, none⟩ = some (.string (rd_T40 xs i).f2) ∧ w.cell? ⟨(ad.add (i.toNat * 11)).block, (ad.add (i.toNat * 11)).off + 3, none⟩ = some (.int .i64 (rd_T40 xs i).f3) ∧ w.cell? ⟨(ad.add (i.toNat * 11)).block, (ad.add (i.toNat * 11)).off + 4, none⟩ = some (.slice A4 (rd_T40 xs i).f4.length c4) ∧ w.cell? ⟨(ad.add (i.toNat * 11)).block, (ad.add (i.toNat * 11)).off + 5, none⟩ = some (.string (rd_T40 xs i).f5) ∧ w.cell? ⟨(ad.add (i.toNat * 11)).block, (ad.add (i.toNat * 11)).off + 6, none⟩ = some (.string (rd_T40 xs i).f6) ∧ w.cell? ⟨(ad.add (i.toNat * 11)).block, (ad.add (i.toNat * 11)).off + 7, none⟩ = some (.int .i64 (rd_T40 xs i).f7) ∧ w.cell? ⟨(ad.add (i.toNat * 11)).block, (ad.add (i.toNat * 11)).off + 8, none⟩ = some (.slice A8 (rd_T40 xs i).f8.length c8) ∧ w.cell? ⟨(ad.add (i.toNat * 11)).block, (ad.add (i.toNat * 11)).off + 9, none⟩ = some (.slice A9 (rd_T40 xs i).f9.length c9) ∧ w.cell? ⟨(ad.add (i.toNat * 11)).block, (ad.add (i.toNat * 11)).off + 10, none⟩ = some (.slice A10 (rd_T40 xs i).f10.length c10) ∧ (rd_T40 xs i).f4.length ≤ c4 ∧ (Kd.int .u8).C w A4 (rd_T40 xs i).f4.length (rd_T40 xs i).f4 ∧ (rd_T40 xs i).f8.length ≤ c8 ∧ k86.C w A8 (rd_T40 xs i).f8.length (rd_T40 xs i).f8 ∧ (rd_T40 xs i).f9.length ≤ c9 ∧ k68.C w A9 (rd_T40 xs i).f9.length (rd_T40 xs i).f9 ∧ (rd_T40 xs i).f10.length ≤ c10 ∧ k51.C w A10 (rd_T40 xs i).f10.length (rd_T40 xs i).f10 := by
 obtain ⟨ad, c, e, _, hK, hc0⟩ := Kd.C_get h z40 i h0 h1
 have hc : ∀ j u, c[j]? = some u → w.cell? (ad.add (i.toNat * 11 + j)) = some u := hc0
 obtain ⟨A4, c4, A8, c8, A9, c9, A10, c10, rfl, l4, g4, l8, g8, l9, g9, l10, g10⟩ := k40_open hK
 exact ⟨ad, A4, c4, A8, c8, A9, c9, A10, c10, e, hc 0 _ rfl, by rw [← add_field _ _ 1 (by omega)]; exact hc 1 _ rfl, by rw [← add_field _ _ 2 (by omega)]; exact hc 2 _ rfl, by rw [← add_field _ _ 3 (by omega)]; exact hc 3 _ rfl, by rw [← add_field _ _ 4 (by omega)]; exact hc 4 _ rfl, by rw [← add_field _ _ 5 (by omega)]; exact hc 5 _ rfl, by rw [← add_field _ _ 6 (by omega)]; exact hc 6 _ rfl, by rw [← add_field _ _ 7 (by omega)]; exact hc 7 _ rfl, by rw [← add_field _ _ 8 (by omega)]; exact hc 8 _ rfl, by rw [← add_field _ _ 9 (by omega)]; exact hc 9 _ rfl, by rw [← add_field _ _ 10 (by omega)]; exact hc 10 _ rfl, l4, g4, l8, g8, l9, g9, l10, g10⟩
structure S91 where
 f0 : Int
 f1 : Int
 f2 : Int
 f3 : ByteArray
 f4 : Bool
 f5 : (List S91)
structure S62 where
 f0 : Int
 f1 : Bool
 f2 : (List S91)
structure S101 where
 f0 : Int
 f1 : Int
 f2 : ByteArray
 f3 : ByteArray
structure S64 where
 f0 : Int
 f1 : ByteArray
 f2 : ByteArray
 f3 : (List Int)
def dioramaref03_in.f (a0 : Int) (a1 : Int) (a2 : Int) : Option (Bool) := if a0 ≥ a1 then (some (decide (a0 ≤ a2))) else (some false)
set_option maxHeartbeats 8000000 in
set_option maxRecDepth 100000 in
theorem dioramaref03_in.calls (a0 : Int) (a1 : Int) (a2 : Int) (r : Bool) (w : World) (h : dioramaref03_in.f a0 a1 a2 = some r) :
  Calls Try.prog 34 #[.int .i64 a0, .int .i64 a1, .int .i64 a2] w fun e w' => e = .returned (.bool r) ∧ Drawn0 w w' := by
 have H : (if a0 ≥ a1 then (some (decide (a0 ≤ a2))) else (some false)) = some r := h; clear h
 by_cases c4 : a0 ≥ a1
 ·rw [if_pos c4] at H; have c4b0 : decide (a1 ≤ a0) = true := decide_eq_true c4; clear c4; obtain rfl := Option.some.inj H
  go_enter Try.func34, Try.ntmps34
  go_wp2
  go_ret
  exact ⟨by first | rfl | (simp; done) | (simp [*]; done), by repeat (first | exact Drawn0.refl _ | apply Drawn0.step)⟩
 ·rw [if_neg c4] at H; have c4b0 : decide (a1 ≤ a0) = false := decide_eq_false c4; clear c4; obtain rfl := Option.some.inj H
  go_enter Try.func34, Try.ntmps34
  go_wp2
  go_ret
  exact ⟨by first | rfl | (simp; done) | (simp [*]; done), by repeat (first | exact Drawn0.refl _ | apply Drawn0.step)⟩
def dioramaref03_Name.l0 : Nat → ByteArray → Int → Option (Bool)
  | 0, _, _ => none
  | k + 1, x0, x3 => if x3 < (x0.size : Int) then (if 0 ≤ x3 then (if (bt x0 x3) < 32 then (some false) else (if (bt x0 x3) > 126 then (some false) else (dioramaref03_Name.l0 k x0 (wrap64 (x3 + 1))))) else (none)) else (some (decide ((x0.size : Int) ≤ 40)))
def dioramaref03_Name.f (k : Nat) (a0 : ByteArray) : Option (Bool) := dioramaref03_Name.l0 k a0 0
set_option maxHeartbeats 8000000 in
set_option maxRecDepth 100000 in
theorem dioramaref03_Name.calls (k : Nat) (a0 : ByteArray) (r : Bool) (w : World) (h : dioramaref03_Name.f k a0 = some r) :
  Calls Try.prog 35 #[.string a0] w fun e w' => e = .returned (.bool r) ∧ Drawn0 w w' := by
 have H : (dioramaref03_Name.l0 k a0 0) = some r := h; clear h; have H' := Aside0.mk H; clear H
 go_enter Try.func35, Try.ntmps35
 go_wp2
 go_loopg [3] k (fun kq v3 w' => ∃ (x3_1 : Int), v3 = .int .i64 x3_1 ∧ Aside0 (dioramaref03_Name.l0 kq a0 x3_1 = some r) ∧ Aside0 (kq ≤ k) ∧ Drawn0 w w')
 case atStart => exact ⟨(0), jz, H', ⟨Nat.le_refl _⟩, by repeat (first | exact Drawn0.refl _ | apply Drawn0.step)⟩
 case round =>
  clear H'; obtain ⟨x3_1, rfl, HA, HK1, ⟨m1, rfl⟩⟩ := hrel
  cases gk with
  | zero => exact absurd HA.out (by simp [dioramaref03_Name.l0])
  | succ k1 =>
   have H := HA.out; clear HA; simp only [dioramaref03_Name.l0] at H
   by_cases c2 : x3_1 < (a0.size : Int)
   ·rw [if_pos c2] at H; have c2b0 : decide (x3_1 < (a0.size : Int)) = true := decide_eq_true c2; clear c2
    by_cases c3 : 0 ≤ x3_1
    ·rw [if_pos c3] at H; have c3b0 : decide (0 ≤ x3_1) = true := decide_eq_true c3; clear c3
     by_cases c5 : (bt a0 x3_1) < 32
     ·rw [if_pos c5] at H; have c5b0 : decide ((bt a0 x3_1) < 32) = true := decide_eq_true c5; clear c5; obtain rfl := Option.some.inj H; have p4 : 0 ≤ (x3_1 : Int) := od; have q4 : x3_1 < (a0.size : Int) := od; have hx4 := bt_at a0 x3_1; replace p4 := eq_true p4; replace q4 := eq_true q4
      go_wp2
      go_ret
      exact ⟨by first | rfl | (simp; done) | (simp [*]; done), by repeat (first | exact Drawn0.refl _ | apply Drawn0.step)⟩
     ·rw [if_neg c5] at H; have c5b0 : decide ((bt a0 x3_1) < 32) = false := decide_eq_false c5; clear c5
      by_cases c7 : (bt a0 x3_1) > 126
      ·rw [if_pos c7] at H; have c7b0 : decide (126 < (bt a0 x3_1)) = true := decide_eq_true c7; clear c7; obtain rfl := Option.some.inj H; have p4 : 0 ≤ (x3_1 : Int) := od; have q4 : x3_1 < (a0.size : Int) := od; have hx4 := bt_at a0 x3_1; replace p4 := eq_true p4; replace q4 := eq_true q4; have p6 : 0 ≤ (x3_1 : Int) := od; have q6 : x3_1 < (a0.size : Int) := od; have hx6 := bt_at a0 x3_1; replace p6 := eq_true p6; replace q6 := eq_true q6
       go_wp2
       go_ret
       exact ⟨by first | rfl | (simp; done) | (simp [*]; done), by repeat (first | exact Drawn0.refl _ | apply Drawn0.step)⟩
      ·rw [if_neg c7] at H; have c7b0 : decide (126 < (bt a0 x3_1)) = false := decide_eq_false c7; clear c7; have H' := Aside0.mk H; clear H; have p4 : 0 ≤ (x3_1 : Int) := od; have q4 : x3_1 < (a0.size : Int) := od; have hx4 := bt_at a0 x3_1; replace p4 := eq_true p4; replace q4 := eq_true q4; have p6 : 0 ≤ (x3_1 : Int) := od; have q6 : x3_1 < (a0.size : Int) := od; have hx6 := bt_at a0 x3_1; replace p6 := eq_true p6; replace q6 := eq_true q6
       go_wp2
       go_roundg k1
       case measure => have := HK1.out; omega
       case rel => exact ⟨(wrap64 (x3_1 + 1)), jz, H', ⟨by have := HK1.out; omega⟩, by repeat (first | exact Drawn0.refl _ | apply Drawn0.step)⟩
    ·rw [if_neg c3] at H
     exact absurd H (by simp)
   ·rw [if_neg c2] at H; have c2b0 : decide (x3_1 < (a0.size : Int)) = false := decide_eq_false c2; clear c2; obtain rfl := Option.some.inj H
    go_wp2
    go_ret
    exact ⟨by first | rfl | (simp; done) | (simp [*]; done), by repeat (first | exact Drawn0.refl _ | apply Drawn0.step)⟩
def dioramaref03_Letters.l0 : Nat → ByteArray → Int → Option (Bool)
  | 0, _, _ => none
  | k + 1, x0, x3 => if x3 < (x0.size : Int) then (if 0 ≤ x3 then (if (bt x0 x3) < 97 then (if (bt x0 x3) < 48 then (some false) else (if (bt x0 x3) > 57 then (some false) else (dioramaref03_Letters.l0 k x0 (wrap64 (x3 + 1))))) else (if (bt x0 x3) > 122 then (if (bt x0 x3) < 48 then (some false) else (if (bt x0 x3) > 57 then (some false) else (dioramaref03_Letters.l0 k x0 (wrap64 (x3 + 1))))) else (dioramaref03_Letters.l0 k x0 (wrap64 (x3 + 1))))) else (none)) else (some ((x0.size : Int) == 4))
def dioramaref03_Letters.f (k : Nat) (a0 : ByteArray) : Option (Bool) := dioramaref03_Letters.l0 k a0 0
set_option maxHeartbeats 8000000 in
set_option maxRecDepth 100000 in
theorem dioramaref03_Letters.calls (k : Nat) (a0 : ByteArray) (r : Bool) (w : World) (h : dioramaref03_Letters.f k a0 = some r) :
  Calls Try.prog 61 #[.string a0] w fun e w' => e = .returned (.bool r) ∧ Drawn0 w w' := by
 have H : (dioramaref03_Letters.l0 k a0 0) = some r := h; clear h; have H' := Aside0.mk H; clear H
 go_enter Try.func61, Try.ntmps61
 go_wp2
 go_loopg [3] k (fun kq v3 w' => ∃ (x3_1 : Int), v3 = .int .i64 x3_1 ∧ Aside0 (dioramaref03_Letters.l0 kq a0 x3_1 = some r) ∧ Aside0 (kq ≤ k) ∧ Drawn0 w w')
 case atStart => exact ⟨(0), jz, H', ⟨Nat.le_refl _⟩, by repeat (first | exact Drawn0.refl _ | apply Drawn0.step)⟩
 case round =>
  clear H'; obtain ⟨x3_1, rfl, HA, HK1, ⟨m1, rfl⟩⟩ := hrel
  cases gk with
  | zero => exact absurd HA.out (by simp [dioramaref03_Letters.l0])
  | succ k1 =>
   have H := HA.out; clear HA; simp only [dioramaref03_Letters.l0] at H
   by_cases c2 : x3_1 < (a0.size : Int)
   ·rw [if_pos c2] at H; have c2b0 : decide (x3_1 < (a0.size : Int)) = true := decide_eq_true c2; clear c2
    by_cases c3 : 0 ≤ x3_1
    ·rw [if_pos c3] at H; have c3b0 : decide (0 ≤ x3_1) = true := decide_eq_true c3; clear c3
     by_cases c5 : (bt a0 x3_1) < 97
     ·rw [if_pos c5] at H; have c5b0 : decide ((bt a0 x3_1) < 97) = true := decide_eq_true c5; clear c5
      by_cases c7 : (bt a0 x3_1) < 48
      ·rw [if_pos c7] at H; have c7b0 : decide ((bt a0 x3_1) < 48) = true := decide_eq_true c7; clear c7; obtain rfl := Option.some.inj H; have p4 : 0 ≤ (x3_1 : Int) := od; have q4 : x3_1 < (a0.size : Int) := od; have hx4 := bt_at a0 x3_1; replace p4 := eq_true p4; replace q4 := eq_true q4; have p6 : 0 ≤ (x3_1 : Int) := od; have q6 : x3_1 < (a0.size : Int) := od; have hx6 := bt_at a0 x3_1; replace p6 := eq_true p6; replace q6 := eq_true q6
       go_wp2
       go_ret
       exact ⟨by first | rfl | (simp; done) | (simp [*]; done), by repeat (first | exact Drawn0.refl _ | apply Drawn0.step)⟩
      ·rw [if_neg c7] at H; have c7b0 : decide ((bt a0 x3_1) < 48) = false := decide_eq_false c7; clear c7
       by_cases c9 : (bt a0 x3_1) > 57
       ·rw [if_pos c9] at H; have c9b0 : decide (57 < (bt a0 x3_1)) = true := decide_eq_true c9; clear c9; obtain rfl := Option.some.inj H; have p4 : 0 ≤ (x3_1 : Int) := od; have q4 : x3_1 < (a0.size : Int) := od; have hx4 := bt_at a0 x3_1; replace p4 := eq_true p4; replace q4 := eq_true q4; have p6 : 0 ≤ (x3_1 : Int) := od; have q6 : x3_1 < (a0.size : Int) := od; have hx6 := bt_at a0 x3_1; replace p6 := eq_true p6; replace q6 := eq_true q6; have p8 : 0 ≤ (x3_1 : Int) := od; have q8 : x3_1 < (a0.size : Int) := od; have hx8 := bt_at a0 x3_1; replace p8 := eq_true p8; replace q8 := eq_true q8
        go_wp2
        go_ret
        exact ⟨by first | rfl | (simp; done) | (simp [*]; done), by repeat (first | exact Drawn0.refl _ | apply Drawn0.step)⟩
       ·rw [if_neg c9] at H; have c9b0 : decide (57 < (bt a0 x3_1)) = false := decide_eq_false c9; clear c9; have H' := Aside0.mk H; clear H; have p4 : 0 ≤ (x3_1 : Int) := od; have q4 : x3_1 < (a0.size : Int) := od; have hx4 := bt_at a0 x3_1; replace p4 := eq_true p4; replace q4 := eq_true q4; have p6 : 0 ≤ (x3_1 : Int) := od; have q6 : x3_1 < (a0.size : Int) := od; have hx6 := bt_at a0 x3_1; replace p6 := eq_true p6; replace q6 := eq_true q6; have p8 : 0 ≤ (x3_1 : Int) := od; have q8 : x3_1 < (a0.size : Int) := od; have hx8 := bt_at a0 x3_1; replace p8 := eq_true p8; replace q8 := eq_true q8
        go_wp2
        go_roundg k1
        case measure => have := HK1.out; omega
        case rel => exact ⟨(wrap64 (x3_1 + 1)), jz, H', ⟨by have := HK1.out; omega⟩, by repeat (first | exact Drawn0.refl _ | apply Drawn0.step)⟩
     ·rw [if_neg c5] at H; have c5b0 : decide ((bt a0 x3_1) < 97) = false := decide_eq_false c5; clear c5
      by_cases c11 : (bt a0 x3_1) > 122
      ·rw [if_pos c11] at H; have c11b0 : decide (122 < (bt a0 x3_1)) = true := decide_eq_true c11; clear c11
       by_cases c13 : (bt a0 x3_1) < 48
       ·rw [if_pos c13] at H; have c13b0 : decide ((bt a0 x3_1) < 48) = true := decide_eq_true c13; clear c13; obtain rfl := Option.some.inj H; have p4 : 0 ≤ (x3_1 : Int) := od; have q4 : x3_1 < (a0.size : Int) := od; have hx4 := bt_at a0 x3_1; replace p4 := eq_true p4; replace q4 := eq_true q4; have p10 : 0 ≤ (x3_1 : Int) := od; have q10 : x3_1 < (a0.size : Int) := od; have hx10 := bt_at a0 x3_1; replace p10 := eq_true p10; replace q10 := eq_true q10; have p12 : 0 ≤ (x3_1 : Int) := od; have q12 : x3_1 < (a0.size : Int) := od; have hx12 := bt_at a0 x3_1; replace p12 := eq_true p12; replace q12 := eq_true q12
        go_wp2
        go_ret
        exact ⟨by first | rfl | (simp; done) | (simp [*]; done), by repeat (first | exact Drawn0.refl _ | apply Drawn0.step)⟩
       ·rw [if_neg c13] at H; have c13b0 : decide ((bt a0 x3_1) < 48) = false := decide_eq_false c13; clear c13
        by_cases c15 : (bt a0 x3_1) > 57
        ·rw [if_pos c15] at H; have c15b0 : decide (57 < (bt a0 x3_1)) = true := decide_eq_true c15; clear c15; obtain rfl := Option.some.inj H; have p4 : 0 ≤ (x3_1 : Int) := od; have q4 : x3_1 < (a0.size : Int) := od; have hx4 := bt_at a0 x3_1; replace p4 := eq_true p4; replace q4 := eq_true q4; have p10 : 0 ≤ (x3_1 : Int) := od; have q10 : x3_1 < (a0.size : Int) := od; have hx10 := bt_at a0 x3_1; replace p10 := eq_true p10; replace q10 := eq_true q10; have p12 : 0 ≤ (x3_1 : Int) := od; have q12 : x3_1 < (a0.size : Int) := od; have hx12 := bt_at a0 x3_1; replace p12 := eq_true p12; replace q12 := eq_true q12; have p14 : 0 ≤ (x3_1 : Int) := od; have q14 : x3_1 < (a0.size : Int) := od; have hx14 := bt_at a0 x3_1; replace p14 := eq_true p14; replace q14 := eq_true q14
         go_wp2
         go_ret
         exact ⟨by first | rfl | (simp; done) | (simp [*]; done), by repeat (first | exact Drawn0.refl _ | apply Drawn0.step)⟩
        ·rw [if_neg c15] at H; have c15b0 : decide (57 < (bt a0 x3_1)) = false := decide_eq_false c15; clear c15; have H' := Aside0.mk H; clear H; have p4 : 0 ≤ (x3_1 : Int) := od; have q4 : x3_1 < (a0.size : Int) := od; have hx4 := bt_at a0 x3_1; replace p4 := eq_true p4; replace q4 := eq_true q4; have p10 : 0 ≤ (x3_1 : Int) := od; have q10 : x3_1 < (a0.size : Int) := od; have hx10 := bt_at a0 x3_1; replace p10 := eq_true p10; replace q10 := eq_true q10; have p12 : 0 ≤ (x3_1 : Int) := od; have q12 : x3_1 < (a0.size : Int) := od; have hx12 := bt_at a0 x3_1; replace p12 := eq_true p12; replace q12 := eq_true q12; have p14 : 0 ≤ (x3_1 : Int) := od; have q14 : x3_1 < (a0.size : Int) := od; have hx14 := bt_at a0 x3_1; replace p14 := eq_true p14; replace q14 := eq_true q14
         go_wp2
         go_roundg k1
         case measure => have := HK1.out; omega
         case rel => exact ⟨(wrap64 (x3_1 + 1)), jz, H', ⟨by have := HK1.out; omega⟩, by repeat (first | exact Drawn0.refl _ | apply Drawn0.step)⟩
      ·rw [if_neg c11] at H; have c11b0 : decide (122 < (bt a0 x3_1)) = false := decide_eq_false c11; clear c11; have H' := Aside0.mk H; clear H; have p4 : 0 ≤ (x3_1 : Int) := od; have q4 : x3_1 < (a0.size : Int) := od; have hx4 := bt_at a0 x3_1; replace p4 := eq_true p4; replace q4 := eq_true q4; have p10 : 0 ≤ (x3_1 : Int) := od; have q10 : x3_1 < (a0.size : Int) := od; have hx10 := bt_at a0 x3_1; replace p10 := eq_true p10; replace q10 := eq_true q10
       go_wp2
       go_roundg k1
       case measure => have := HK1.out; omega
       case rel => exact ⟨(wrap64 (x3_1 + 1)), jz, H', ⟨by have := HK1.out; omega⟩, by repeat (first | exact Drawn0.refl _ | apply Drawn0.step)⟩
    ·rw [if_neg c3] at H
     exact absurd H (by simp)
   ·rw [if_neg c2] at H; have c2b0 : decide (x3_1 < (a0.size : Int)) = false := decide_eq_false c2; clear c2; obtain rfl := Option.some.inj H
    go_wp2
    go_ret
    exact ⟨by first | rfl | (simp; done) | (simp [*]; done), by repeat (first | exact Drawn0.refl _ | apply Drawn0.step)⟩
def dioramaref03_language.l0 : Nat → ByteArray → Int → Option (Bool)
  | 0, _, _ => none
  | k + 1, x0, x3 => if x3 < (x0.size : Int) then (if 0 ≤ x3 then (if (bt x0 x3) < 97 then (some false) else (if (bt x0 x3) > 122 then (some false) else (dioramaref03_language.l0 k x0 (wrap64 (x3 + 1))))) else (none)) else (some ((x0.size : Int) == 3))
def dioramaref03_language.f (k : Nat) (a0 : ByteArray) : Option (Bool) := dioramaref03_language.l0 k a0 0
set_option maxHeartbeats 8000000 in
set_option maxRecDepth 100000 in
theorem dioramaref03_language.calls (k : Nat) (a0 : ByteArray) (r : Bool) (w : World) (h : dioramaref03_language.f k a0 = some r) :
  Calls Try.prog 62 #[.string a0] w fun e w' => e = .returned (.bool r) ∧ Drawn0 w w' := by
 have H : (dioramaref03_language.l0 k a0 0) = some r := h; clear h; have H' := Aside0.mk H; clear H
 go_enter Try.func62, Try.ntmps62
 go_wp2
 go_loopg [3] k (fun kq v3 w' => ∃ (x3_1 : Int), v3 = .int .i64 x3_1 ∧ Aside0 (dioramaref03_language.l0 kq a0 x3_1 = some r) ∧ Aside0 (kq ≤ k) ∧ Drawn0 w w')
 case atStart => exact ⟨(0), jz, H', ⟨Nat.le_refl _⟩, by repeat (first | exact Drawn0.refl _ | apply Drawn0.step)⟩
 case round =>
  clear H'; obtain ⟨x3_1, rfl, HA, HK1, ⟨m1, rfl⟩⟩ := hrel
  cases gk with
  | zero => exact absurd HA.out (by simp [dioramaref03_language.l0])
  | succ k1 =>
   have H := HA.out; clear HA; simp only [dioramaref03_language.l0] at H
   by_cases c2 : x3_1 < (a0.size : Int)
   ·rw [if_pos c2] at H; have c2b0 : decide (x3_1 < (a0.size : Int)) = true := decide_eq_true c2; clear c2
    by_cases c3 : 0 ≤ x3_1
    ·rw [if_pos c3] at H; have c3b0 : decide (0 ≤ x3_1) = true := decide_eq_true c3; clear c3
     by_cases c5 : (bt a0 x3_1) < 97
     ·rw [if_pos c5] at H; have c5b0 : decide ((bt a0 x3_1) < 97) = true := decide_eq_true c5; clear c5; obtain rfl := Option.some.inj H; have p4 : 0 ≤ (x3_1 : Int) := od; have q4 : x3_1 < (a0.size : Int) := od; have hx4 := bt_at a0 x3_1; replace p4 := eq_true p4; replace q4 := eq_true q4
      go_wp2
      go_ret
      exact ⟨by first | rfl | (simp; done) | (simp [*]; done), by repeat (first | exact Drawn0.refl _ | apply Drawn0.step)⟩
     ·rw [if_neg c5] at H; have c5b0 : decide ((bt a0 x3_1) < 97) = false := decide_eq_false c5; clear c5
      by_cases c7 : (bt a0 x3_1) > 122
      ·rw [if_pos c7] at H; have c7b0 : decide (122 < (bt a0 x3_1)) = true := decide_eq_true c7; clear c7; obtain rfl := Option.some.inj H; have p4 : 0 ≤ (x3_1 : Int) := od; have q4 : x3_1 < (a0.size : Int) := od; have hx4 := bt_at a0 x3_1; replace p4 := eq_true p4; replace q4 := eq_true q4; have p6 : 0 ≤ (x3_1 : Int) := od; have q6 : x3_1 < (a0.size : Int) := od; have hx6 := bt_at a0 x3_1; replace p6 := eq_true p6; replace q6 := eq_true q6
       go_wp2
       go_ret
       exact ⟨by first | rfl | (simp; done) | (simp [*]; done), by repeat (first | exact Drawn0.refl _ | apply Drawn0.step)⟩
      ·rw [if_neg c7] at H; have c7b0 : decide (122 < (bt a0 x3_1)) = false := decide_eq_false c7; clear c7; have H' := Aside0.mk H; clear H; have p4 : 0 ≤ (x3_1 : Int) := od; have q4 : x3_1 < (a0.size : Int) := od; have hx4 := bt_at a0 x3_1; replace p4 := eq_true p4; replace q4 := eq_true q4; have p6 : 0 ≤ (x3_1 : Int) := od; have q6 : x3_1 < (a0.size : Int) := od; have hx6 := bt_at a0 x3_1; replace p6 := eq_true p6; replace q6 := eq_true q6
       go_wp2
       go_roundg k1
       case measure => have := HK1.out; omega
       case rel => exact ⟨(wrap64 (x3_1 + 1)), jz, H', ⟨by have := HK1.out; omega⟩, by repeat (first | exact Drawn0.refl _ | apply Drawn0.step)⟩
    ·rw [if_neg c3] at H
     exact absurd H (by simp)
   ·rw [if_neg c2] at H; have c2b0 : decide (x3_1 < (a0.size : Int)) = false := decide_eq_false c2; clear c2; obtain rfl := Option.some.inj H
    go_wp2
    go_ret
    exact ⟨by first | rfl | (simp; done) | (simp [*]; done), by repeat (first | exact Drawn0.refl _ | apply Drawn0.step)⟩
mutual
def dioramaref03_fields.j0 : Nat → Bool → Int → Int → ByteArray → Int → List Int → ByteArray → ByteArray → Int → List (S86) → List (S68) → List (S51) → Option (Bool)
  | 0, _, _, _, _, _, _, _, _, _, _, _, _ => none
  | k + 1, x43, x115000, x115001, x115002, x115003, x115004, x115005, x115006, x115007, x115008, x115009, x115010 => if x43 = true then (some false) else (dioramaref03_fields.l0 k 0 x115000 x115001 x115002 x115003 x115004 x115005 x115006 x115007 x115008 x115009 x115010)
def dioramaref03_fields.l0 : Nat → Int → Int → Int → ByteArray → Int → List Int → ByteArray → ByteArray → Int → List (S86) → List (S68) → List (S51) → Option (Bool)
  | 0, _, _, _, _, _, _, _, _, _, _, _, _ => none
  | k + 1, x3, x115000, x115001, x115002, x115003, x115004, x115005, x115006, x115007, x115008, x115009, x115010 => if x3 < (x115009.length : Int) then (if 0 ≤ x3 then ((dioramaref03_Letters.f k ((rd_T68 x115009 x3).f0)).bind fun t123 => (if t123 = true then (dioramaref03_fields.l0 k (wrap64 (x3 + 1)) x115000 x115001 x115002 x115003 x115004 x115005 x115006 x115007 x115008 x115009 x115010) else (some false))) else (none)) else (some true)
end
def dioramaref03_fields.f (k : Nat) (a0_0 : Int) (a0_1 : Int) (a0_2 : ByteArray) (a0_3 : Int) (l0_4 : List Int) (a0_5 : ByteArray) (a0_6 : ByteArray) (a0_7 : Int) (l0_8 : List (S86)) (l0_9 : List (S68)) (l0_10 : List (S51)) : Option (Bool) := (dioramaref03_in.f a0_0 1 1000).bind fun t115 => (if t115 = true then ((dioramaref03_in.f a0_1 1 7).bind fun t116 => (if t116 = true then ((dioramaref03_Letters.f k a0_2).bind fun t117 => (if t117 = true then ((dioramaref03_in.f a0_3 1 1000000).bind fun t118 => (if t118 = true then ((dioramaref03_language.f k a0_5).bind fun t119 => (if t119 = true then ((dioramaref03_Name.f k a0_6).bind fun t120 => (if t120 = true then ((dioramaref03_in.f a0_7 0 1099511627776).bind fun t121 => (dioramaref03_fields.j0 k (!t121) a0_0 a0_1 a0_2 a0_3 l0_4 a0_5 a0_6 a0_7 l0_8 l0_9 l0_10)) else (dioramaref03_fields.j0 k true a0_0 a0_1 a0_2 a0_3 l0_4 a0_5 a0_6 a0_7 l0_8 l0_9 l0_10))) else (dioramaref03_fields.j0 k true a0_0 a0_1 a0_2 a0_3 l0_4 a0_5 a0_6 a0_7 l0_8 l0_9 l0_10))) else (dioramaref03_fields.j0 k true a0_0 a0_1 a0_2 a0_3 l0_4 a0_5 a0_6 a0_7 l0_8 l0_9 l0_10))) else (dioramaref03_fields.j0 k true a0_0 a0_1 a0_2 a0_3 l0_4 a0_5 a0_6 a0_7 l0_8 l0_9 l0_10))) else (dioramaref03_fields.j0 k true a0_0 a0_1 a0_2 a0_3 l0_4 a0_5 a0_6 a0_7 l0_8 l0_9 l0_10))) else (dioramaref03_fields.j0 k true a0_0 a0_1 a0_2 a0_3 l0_4 a0_5 a0_6 a0_7 l0_8 l0_9 l0_10))
set_option maxHeartbeats 8000000 in
set_option maxRecDepth 100000 in
theorem dioramaref03_fields.calls (k : Nat) (a0_0 : Int) (a0_1 : Int) (a0_2 : ByteArray) (a0_3 : Int) (A0_4 : Option Addr) (c0_4 : Nat) (l0_4 : List Int) (a0_5 : ByteArray) (a0_6 : ByteArray) (a0_7 : Int) (A0_8 : Option Addr) (c0_8 : Nat) (l0_8 : List (S86)) (A0_9 : Option Addr) (c0_9 : Nat) (l0_9 : List (S68)) (A0_10 : Option Addr) (c0_10 : Nat) (l0_10 : List (S51)) (r : Bool) (w : World) (hr0_4 : Kd.C (Kd.int .u8) w A0_4 l0_4.length l0_4) (hc0_4 : l0_4.length ≤ c0_4) (hr0_8 : Kd.C k86 w A0_8 l0_8.length l0_8) (hc0_8 : l0_8.length ≤ c0_8) (hr0_9 : Kd.C k68 w A0_9 l0_9.length l0_9) (hc0_9 : l0_9.length ≤ c0_9) (hr0_10 : Kd.C k51 w A0_10 l0_10.length l0_10) (hc0_10 : l0_10.length ≤ c0_10) (h : dioramaref03_fields.f k a0_0 a0_1 a0_2 a0_3 l0_4 a0_5 a0_6 a0_7 l0_8 l0_9 l0_10 = some r) :
  Calls Try.prog 46 #[.agg #[.int .i64 a0_0, .int .i64 a0_1, .string a0_2, .int .i64 a0_3, .slice A0_4 l0_4.length c0_4, .string a0_5, .string a0_6, .int .i64 a0_7, .slice A0_8 l0_8.length c0_8, .slice A0_9 l0_9.length c0_9, .slice A0_10 l0_10.length c0_10]] w fun e w' => e = .returned (.bool r) ∧ Below w.heap.size w w' := by
 have hu40 := Try.underlying40; have HR0_4 := Aside0.mk hr0_4; have HC0_4 := Aside0.mk hc0_4; clear hr0_4 hc0_4; have HR0_8 := Aside0.mk hr0_8; have HC0_8 := Aside0.mk hc0_8; clear hr0_8 hc0_8; have HR0_9 := Aside0.mk hr0_9; have HC0_9 := Aside0.mk hc0_9; clear hr0_9 hc0_9; have HR0_10 := Aside0.mk hr0_10; have HC0_10 := Aside0.mk hc0_10; clear hr0_10 hc0_10; have HB := Aside0.mk (Below.refl w.heap.size w); have H : ((dioramaref03_in.f a0_0 1 1000).bind fun t115 => (if t115 = true then ((dioramaref03_in.f a0_1 1 7).bind fun t116 => (if t116 = true then ((dioramaref03_Letters.f k a0_2).bind fun t117 => (if t117 = true then ((dioramaref03_in.f a0_3 1 1000000).bind fun t118 => (if t118 = true then ((dioramaref03_language.f k a0_5).bind fun t119 => (if t119 = true then ((dioramaref03_Name.f k a0_6).bind fun t120 => (if t120 = true then ((dioramaref03_in.f a0_7 0 1099511627776).bind fun t121 => (dioramaref03_fields.j0 k (!t121) a0_0 a0_1 a0_2 a0_3 l0_4 a0_5 a0_6 a0_7 l0_8 l0_9 l0_10)) else (dioramaref03_fields.j0 k true a0_0 a0_1 a0_2 a0_3 l0_4 a0_5 a0_6 a0_7 l0_8 l0_9 l0_10))) else (dioramaref03_fields.j0 k true a0_0 a0_1 a0_2 a0_3 l0_4 a0_5 a0_6 a0_7 l0_8 l0_9 l0_10))) else (dioramaref03_fields.j0 k true a0_0 a0_1 a0_2 a0_3 l0_4 a0_5 a0_6 a0_7 l0_8 l0_9 l0_10))) else (dioramaref03_fields.j0 k true a0_0 a0_1 a0_2 a0_3 l0_4 a0_5 a0_6 a0_7 l0_8 l0_9 l0_10))) else (dioramaref03_fields.j0 k true a0_0 a0_1 a0_2 a0_3 l0_4 a0_5 a0_6 a0_7 l0_8 l0_9 l0_10))) else (dioramaref03_fields.j0 k true a0_0 a0_1 a0_2 a0_3 l0_4 a0_5 a0_6 a0_7 l0_8 l0_9 l0_10))) = some r := h
 clear h; have HC2 := Aside0.mk H; clear H
 go_enter Try.func46, Try.ntmps46
 go_upto_region 1 with (first | ((with_reducible refine gate_dst (N := 1) rfl ?_); refine zB 1 40 #[.int .i64 a0_0, .int .i64 a0_1, .string a0_2, .int .i64 a0_3, .slice A0_4 l0_4.length c0_4, .string a0_5, .string a0_6, .int .i64 a0_7, .slice A0_8 l0_8.length c0_8, .slice A0_9 l0_9.length c0_9, .slice A0_10 l0_10.length c0_10] ?_; intro gb114 hg w3 hbox hb; have BK114 := Aside0.mk hbox; have GW114 := gz hg; have GE114 := gz hg; replace HB := bp hb; clear hb hbox hg))
 (try simp only [Act.put, List.setIfInBounds_toArray, List.set_cons_zero, List.set_cons_succ])
 go_cut [43] (fun v43 wc => ∃ (kq : Nat) (x43_1 : Bool), v43 = .bool x43_1 ∧ Aside0 (dioramaref03_fields.j0 kq x43_1 a0_0 a0_1 a0_2 a0_3 l0_4 a0_5 a0_6 a0_7 l0_8 l0_9 l0_10 = some r) ∧ Aside0 (kq ≤ k) ∧ Aside0 (wc.heap[gb114]? = some (.cells #[.int .i64 a0_0, .int .i64 a0_1, .string a0_2, .int .i64 a0_3, (.slice A0_4 l0_4.length c0_4), .string a0_5, .string a0_6, .int .i64 a0_7, (.slice A0_8 l0_8.length c0_8), (.slice A0_9 l0_9.length c0_9), (.slice A0_10 l0_10.length c0_10)] 40 (0, 0))) ∧ Aside0 (Below w.heap.size w wc))
 case first =>
  have H := HC2.out; clear HC2; obtain ⟨t115, A4, H⟩ := ob H
  by_cases c5 : t115 = true
  ·subst c5; rw [if_pos rfl] at H; obtain ⟨t116, A6, H⟩ := ob H
   by_cases c7 : t116 = true
   ·subst c7; rw [if_pos rfl] at H; obtain ⟨t117, A8, H⟩ := ob H
    by_cases c9 : t117 = true
    ·subst c9; rw [if_pos rfl] at H; obtain ⟨t118, A10, H⟩ := ob H
     by_cases c11 : t118 = true
     ·subst c11; rw [if_pos rfl] at H; obtain ⟨t119, A12, H⟩ := ob H
      by_cases c13 : t119 = true
      ·subst c13; rw [if_pos rfl] at H; obtain ⟨t120, A14, H⟩ := ob H
       by_cases c15 : t120 = true
       ·subst c15; rw [if_pos rfl] at H; obtain ⟨t121, A16, H⟩ := ob H; have H' := Aside0.mk H; clear H; have hcz17_0 : w3.cell? ⟨gb114, 0, none⟩ = some (.int .i64 a0_0) := ct BK114 0; have hcz17_1 : w3.cell? ⟨gb114, 1, none⟩ = some (.int .i64 a0_1) := ct BK114 1; have hcz17_2 : w3.cell? ⟨gb114, 2, none⟩ = some (.string a0_2) := ct BK114 2; have hcz17_3 : w3.cell? ⟨gb114, 3, none⟩ = some (.int .i64 a0_3) := ct BK114 3; have hcz17_4 : w3.cell? ⟨gb114, 4, none⟩ = some (.slice A0_4 l0_4.length c0_4) := ct BK114 4; have hcz17_5 : w3.cell? ⟨gb114, 5, none⟩ = some (.string a0_5) := ct BK114 5; have hcz17_6 : w3.cell? ⟨gb114, 6, none⟩ = some (.string a0_6) := ct BK114 6; have hcz17_7 : w3.cell? ⟨gb114, 7, none⟩ = some (.int .i64 a0_7) := ct BK114 7; have hcz17_8 : w3.cell? ⟨gb114, 8, none⟩ = some (.slice A0_8 l0_8.length c0_8) := ct BK114 8; have hcz17_9 : w3.cell? ⟨gb114, 9, none⟩ = some (.slice A0_9 l0_9.length c0_9) := ct BK114 9; have hcz17_10 : w3.cell? ⟨gb114, 10, none⟩ = some (.slice A0_10 l0_10.length c0_10) := ct BK114 10; have hfz17_0 := blk_frozen BK114.out 0; have hfz17_1 := blk_frozen BK114.out 1; have hfz17_2 := blk_frozen BK114.out 2; have hfz17_3 := blk_frozen BK114.out 3; have hfz17_4 := blk_frozen BK114.out 4; have hfz17_5 := blk_frozen BK114.out 5; have hfz17_6 := blk_frozen BK114.out 6; have hfz17_7 := blk_frozen BK114.out 7; have hfz17_8 := blk_frozen BK114.out 8; have hfz17_9 := blk_frozen BK114.out 9; have hfz17_10 := blk_frozen BK114.out 10
        go_wp2_with (first | ((with_reducible refine gate_callee (f := 34) rfl ?_); refine zC 6 Try.func34 #[.int .i64 a0_0, .int .i64 1, .int .i64 1000] ?_; (with_reducible refine (dioramaref03_in.calls a0_0 1 1000 true _ A4.out).mono ?_); rintro e w' ⟨rfl, ⟨nd, rfl⟩⟩; refine ⟨_, rfl, ?_⟩) | (go_at_call 34; (with_reducible refine (dioramaref03_in.calls a0_1 1 7 true _ A6.out).mono ?_); rintro e w' ⟨rfl, ⟨nd, rfl⟩⟩) | (go_at_call 61; (with_reducible refine (dioramaref03_Letters.calls k a0_2 true _ A8.out).mono ?_); rintro e w' ⟨rfl, ⟨nd, rfl⟩⟩) | (go_at_call 34; (with_reducible refine (dioramaref03_in.calls a0_3 1 1000000 true _ A10.out).mono ?_); rintro e w' ⟨rfl, ⟨nd, rfl⟩⟩) | (go_at_call 62; (with_reducible refine (dioramaref03_language.calls k a0_5 true _ A12.out).mono ?_); rintro e w' ⟨rfl, ⟨nd, rfl⟩⟩) | (go_at_call 35; (with_reducible refine (dioramaref03_Name.calls k a0_6 true _ A14.out).mono ?_); rintro e w' ⟨rfl, ⟨nd, rfl⟩⟩) | (go_at_call 34; (with_reducible refine (dioramaref03_in.calls a0_7 0 1099511627776 t121 _ A16.out).mono ?_); rintro e w' ⟨rfl, ⟨nd, rfl⟩⟩))
        go_meet
        case rel => exact ⟨_, (!t121), jz, H', ⟨by first | omega | exact Nat.le_refl _⟩, ⟨kz⟩, ⟨bz⟩⟩
       ·obtain rfl := bf c15; rw [if_neg (show ¬ (false = true) by decide)] at H; have H' := Aside0.mk H; clear H; have hcz18_0 : w3.cell? ⟨gb114, 0, none⟩ = some (.int .i64 a0_0) := ct BK114 0; have hcz18_1 : w3.cell? ⟨gb114, 1, none⟩ = some (.int .i64 a0_1) := ct BK114 1; have hcz18_2 : w3.cell? ⟨gb114, 2, none⟩ = some (.string a0_2) := ct BK114 2; have hcz18_3 : w3.cell? ⟨gb114, 3, none⟩ = some (.int .i64 a0_3) := ct BK114 3; have hcz18_4 : w3.cell? ⟨gb114, 4, none⟩ = some (.slice A0_4 l0_4.length c0_4) := ct BK114 4; have hcz18_5 : w3.cell? ⟨gb114, 5, none⟩ = some (.string a0_5) := ct BK114 5; have hcz18_6 : w3.cell? ⟨gb114, 6, none⟩ = some (.string a0_6) := ct BK114 6; have hcz18_7 : w3.cell? ⟨gb114, 7, none⟩ = some (.int .i64 a0_7) := ct BK114 7; have hcz18_8 : w3.cell? ⟨gb114, 8, none⟩ = some (.slice A0_8 l0_8.length c0_8) := ct BK114 8; have hcz18_9 : w3.cell? ⟨gb114, 9, none⟩ = some (.slice A0_9 l0_9.length c0_9) := ct BK114 9; have hcz18_10 : w3.cell? ⟨gb114, 10, none⟩ = some (.slice A0_10 l0_10.length c0_10) := ct BK114 10; have hfz18_0 := blk_frozen BK114.out 0; have hfz18_1 := blk_frozen BK114.out 1; have hfz18_2 := blk_frozen BK114.out 2; have hfz18_3 := blk_frozen BK114.out 3; have hfz18_4 := blk_frozen BK114.out 4; have hfz18_5 := blk_frozen BK114.out 5; have hfz18_6 := blk_frozen BK114.out 6; have hfz18_7 := blk_frozen BK114.out 7; have hfz18_8 := blk_frozen BK114.out 8; have hfz18_9 := blk_frozen BK114.out 9; have hfz18_10 := blk_frozen BK114.out 10
        go_wp2_with (first | ((with_reducible refine gate_callee (f := 34) rfl ?_); refine zC 6 Try.func34 #[.int .i64 a0_0, .int .i64 1, .int .i64 1000] ?_; (with_reducible refine (dioramaref03_in.calls a0_0 1 1000 true _ A4.out).mono ?_); rintro e w' ⟨rfl, ⟨nd, rfl⟩⟩; refine ⟨_, rfl, ?_⟩) | (go_at_call 34; (with_reducible refine (dioramaref03_in.calls a0_1 1 7 true _ A6.out).mono ?_); rintro e w' ⟨rfl, ⟨nd, rfl⟩⟩) | (go_at_call 61; (with_reducible refine (dioramaref03_Letters.calls k a0_2 true _ A8.out).mono ?_); rintro e w' ⟨rfl, ⟨nd, rfl⟩⟩) | (go_at_call 34; (with_reducible refine (dioramaref03_in.calls a0_3 1 1000000 true _ A10.out).mono ?_); rintro e w' ⟨rfl, ⟨nd, rfl⟩⟩) | (go_at_call 62; (with_reducible refine (dioramaref03_language.calls k a0_5 true _ A12.out).mono ?_); rintro e w' ⟨rfl, ⟨nd, rfl⟩⟩) | (go_at_call 35; (with_reducible refine (dioramaref03_Name.calls k a0_6 false _ A14.out).mono ?_); rintro e w' ⟨rfl, ⟨nd, rfl⟩⟩))
        go_meet
        case rel => exact ⟨_, (true), jz, H', ⟨by first | omega | exact Nat.le_refl _⟩, ⟨kz⟩, ⟨bz⟩⟩
      ·obtain rfl := bf c13; rw [if_neg (show ¬ (false = true) by decide)] at H; have H' := Aside0.mk H; clear H; have hcz19_0 : w3.cell? ⟨gb114, 0, none⟩ = some (.int .i64 a0_0) := ct BK114 0; have hcz19_1 : w3.cell? ⟨gb114, 1, none⟩ = some (.int .i64 a0_1) := ct BK114 1; have hcz19_2 : w3.cell? ⟨gb114, 2, none⟩ = some (.string a0_2) := ct BK114 2; have hcz19_3 : w3.cell? ⟨gb114, 3, none⟩ = some (.int .i64 a0_3) := ct BK114 3; have hcz19_4 : w3.cell? ⟨gb114, 4, none⟩ = some (.slice A0_4 l0_4.length c0_4) := ct BK114 4; have hcz19_5 : w3.cell? ⟨gb114, 5, none⟩ = some (.string a0_5) := ct BK114 5; have hcz19_6 : w3.cell? ⟨gb114, 6, none⟩ = some (.string a0_6) := ct BK114 6; have hcz19_7 : w3.cell? ⟨gb114, 7, none⟩ = some (.int .i64 a0_7) := ct BK114 7; have hcz19_8 : w3.cell? ⟨gb114, 8, none⟩ = some (.slice A0_8 l0_8.length c0_8) := ct BK114 8; have hcz19_9 : w3.cell? ⟨gb114, 9, none⟩ = some (.slice A0_9 l0_9.length c0_9) := ct BK114 9; have hcz19_10 : w3.cell? ⟨gb114, 10, none⟩ = some (.slice A0_10 l0_10.length c0_10) := ct BK114 10; have hfz19_0 := blk_frozen BK114.out 0; have hfz19_1 := blk_frozen BK114.out 1; have hfz19_2 := blk_frozen BK114.out 2; have hfz19_3 := blk_frozen BK114.out 3; have hfz19_4 := blk_frozen BK114.out 4; have hfz19_5 := blk_frozen BK114.out 5; have hfz19_6 := blk_frozen BK114.out 6; have hfz19_7 := blk_frozen BK114.out 7; have hfz19_8 := blk_frozen BK114.out 8; have hfz19_9 := blk_frozen BK114.out 9; have hfz19_10 := blk_frozen BK114.out 10
       go_wp2_with (first | ((with_reducible refine gate_callee (f := 34) rfl ?_); refine zC 6 Try.func34 #[.int .i64 a0_0, .int .i64 1, .int .i64 1000] ?_; (with_reducible refine (dioramaref03_in.calls a0_0 1 1000 true _ A4.out).mono ?_); rintro e w' ⟨rfl, ⟨nd, rfl⟩⟩; refine ⟨_, rfl, ?_⟩) | (go_at_call 34; (with_reducible refine (dioramaref03_in.calls a0_1 1 7 true _ A6.out).mono ?_); rintro e w' ⟨rfl, ⟨nd, rfl⟩⟩) | (go_at_call 61; (with_reducible refine (dioramaref03_Letters.calls k a0_2 true _ A8.out).mono ?_); rintro e w' ⟨rfl, ⟨nd, rfl⟩⟩) | (go_at_call 34; (with_reducible refine (dioramaref03_in.calls a0_3 1 1000000 true _ A10.out).mono ?_); rintro e w' ⟨rfl, ⟨nd, rfl⟩⟩) | (go_at_call 62; (with_reducible refine (dioramaref03_language.calls k a0_5 false _ A12.out).mono ?_); rintro e w' ⟨rfl, ⟨nd, rfl⟩⟩))
       go_meet
       case rel => exact ⟨_, (true), jz, H', ⟨by first | omega | exact Nat.le_refl _⟩, ⟨kz⟩, ⟨bz⟩⟩
     ·obtain rfl := bf c11; rw [if_neg (show ¬ (false = true) by decide)] at H; have H' := Aside0.mk H; clear H; have hcz20_0 : w3.cell? ⟨gb114, 0, none⟩ = some (.int .i64 a0_0) := ct BK114 0; have hcz20_1 : w3.cell? ⟨gb114, 1, none⟩ = some (.int .i64 a0_1) := ct BK114 1; have hcz20_2 : w3.cell? ⟨gb114, 2, none⟩ = some (.string a0_2) := ct BK114 2; have hcz20_3 : w3.cell? ⟨gb114, 3, none⟩ = some (.int .i64 a0_3) := ct BK114 3; have hcz20_4 : w3.cell? ⟨gb114, 4, none⟩ = some (.slice A0_4 l0_4.length c0_4) := ct BK114 4; have hcz20_5 : w3.cell? ⟨gb114, 5, none⟩ = some (.string a0_5) := ct BK114 5; have hcz20_6 : w3.cell? ⟨gb114, 6, none⟩ = some (.string a0_6) := ct BK114 6; have hcz20_7 : w3.cell? ⟨gb114, 7, none⟩ = some (.int .i64 a0_7) := ct BK114 7; have hcz20_8 : w3.cell? ⟨gb114, 8, none⟩ = some (.slice A0_8 l0_8.length c0_8) := ct BK114 8; have hcz20_9 : w3.cell? ⟨gb114, 9, none⟩ = some (.slice A0_9 l0_9.length c0_9) := ct BK114 9; have hcz20_10 : w3.cell? ⟨gb114, 10, none⟩ = some (.slice A0_10 l0_10.length c0_10) := ct BK114 10; have hfz20_0 := blk_frozen BK114.out 0; have hfz20_1 := blk_frozen BK114.out 1; have hfz20_2 := blk_frozen BK114.out 2; have hfz20_3 := blk_frozen BK114.out 3; have hfz20_4 := blk_frozen BK114.out 4; have hfz20_5 := blk_frozen BK114.out 5; have hfz20_6 := blk_frozen BK114.out 6; have hfz20_7 := blk_frozen BK114.out 7; have hfz20_8 := blk_frozen BK114.out 8; have hfz20_9 := blk_frozen BK114.out 9; have hfz20_10 := blk_frozen BK114.out 10
      go_wp2_with (first | ((with_reducible refine gate_callee (f := 34) rfl ?_); refine zC 6 Try.func34 #[.int .i64 a0_0, .int .i64 1, .int .i64 1000] ?_; (with_reducible refine (dioramaref03_in.calls a0_0 1 1000 true _ A4.out).mono ?_); rintro e w' ⟨rfl, ⟨nd, rfl⟩⟩; refine ⟨_, rfl, ?_⟩) | (go_at_call 34; (with_reducible refine (dioramaref03_in.calls a0_1 1 7 true _ A6.out).mono ?_); rintro e w' ⟨rfl, ⟨nd, rfl⟩⟩) | (go_at_call 61; (with_reducible refine (dioramaref03_Letters.calls k a0_2 true _ A8.out).mono ?_); rintro e w' ⟨rfl, ⟨nd, rfl⟩⟩) | (go_at_call 34; (with_reducible refine (dioramaref03_in.calls a0_3 1 1000000 false _ A10.out).mono ?_); rintro e w' ⟨rfl, ⟨nd, rfl⟩⟩))
      go_meet
      case rel => exact ⟨_, (true), jz, H', ⟨by first | omega | exact Nat.le_refl _⟩, ⟨kz⟩, ⟨bz⟩⟩
    ·obtain rfl := bf c9; rw [if_neg (show ¬ (false = true) by decide)] at H; have H' := Aside0.mk H; clear H; have hcz21_0 : w3.cell? ⟨gb114, 0, none⟩ = some (.int .i64 a0_0) := ct BK114 0; have hcz21_1 : w3.cell? ⟨gb114, 1, none⟩ = some (.int .i64 a0_1) := ct BK114 1; have hcz21_2 : w3.cell? ⟨gb114, 2, none⟩ = some (.string a0_2) := ct BK114 2; have hcz21_3 : w3.cell? ⟨gb114, 3, none⟩ = some (.int .i64 a0_3) := ct BK114 3; have hcz21_4 : w3.cell? ⟨gb114, 4, none⟩ = some (.slice A0_4 l0_4.length c0_4) := ct BK114 4; have hcz21_5 : w3.cell? ⟨gb114, 5, none⟩ = some (.string a0_5) := ct BK114 5; have hcz21_6 : w3.cell? ⟨gb114, 6, none⟩ = some (.string a0_6) := ct BK114 6; have hcz21_7 : w3.cell? ⟨gb114, 7, none⟩ = some (.int .i64 a0_7) := ct BK114 7; have hcz21_8 : w3.cell? ⟨gb114, 8, none⟩ = some (.slice A0_8 l0_8.length c0_8) := ct BK114 8; have hcz21_9 : w3.cell? ⟨gb114, 9, none⟩ = some (.slice A0_9 l0_9.length c0_9) := ct BK114 9; have hcz21_10 : w3.cell? ⟨gb114, 10, none⟩ = some (.slice A0_10 l0_10.length c0_10) := ct BK114 10; have hfz21_0 := blk_frozen BK114.out 0; have hfz21_1 := blk_frozen BK114.out 1; have hfz21_2 := blk_frozen BK114.out 2; have hfz21_3 := blk_frozen BK114.out 3; have hfz21_4 := blk_frozen BK114.out 4; have hfz21_5 := blk_frozen BK114.out 5; have hfz21_6 := blk_frozen BK114.out 6; have hfz21_7 := blk_frozen BK114.out 7; have hfz21_8 := blk_frozen BK114.out 8; have hfz21_9 := blk_frozen BK114.out 9; have hfz21_10 := blk_frozen BK114.out 10
     go_wp2_with (first | ((with_reducible refine gate_callee (f := 34) rfl ?_); refine zC 6 Try.func34 #[.int .i64 a0_0, .int .i64 1, .int .i64 1000] ?_; (with_reducible refine (dioramaref03_in.calls a0_0 1 1000 true _ A4.out).mono ?_); rintro e w' ⟨rfl, ⟨nd, rfl⟩⟩; refine ⟨_, rfl, ?_⟩) | (go_at_call 34; (with_reducible refine (dioramaref03_in.calls a0_1 1 7 true _ A6.out).mono ?_); rintro e w' ⟨rfl, ⟨nd, rfl⟩⟩) | (go_at_call 61; (with_reducible refine (dioramaref03_Letters.calls k a0_2 false _ A8.out).mono ?_); rintro e w' ⟨rfl, ⟨nd, rfl⟩⟩))
     go_meet
     case rel => exact ⟨_, (true), jz, H', ⟨by first | omega | exact Nat.le_refl _⟩, ⟨kz⟩, ⟨bz⟩⟩
   ·obtain rfl := bf c7; rw [if_neg (show ¬ (false = true) by decide)] at H; have H' := Aside0.mk H; clear H; have hcz22_0 : w3.cell? ⟨gb114, 0, none⟩ = some (.int .i64 a0_0) := ct BK114 0; have hcz22_1 : w3.cell? ⟨gb114, 1, none⟩ = some (.int .i64 a0_1) := ct BK114 1; have hcz22_2 : w3.cell? ⟨gb114, 2, none⟩ = some (.string a0_2) := ct BK114 2; have hcz22_3 : w3.cell? ⟨gb114, 3, none⟩ = some (.int .i64 a0_3) := ct BK114 3; have hcz22_4 : w3.cell? ⟨gb114, 4, none⟩ = some (.slice A0_4 l0_4.length c0_4) := ct BK114 4; have hcz22_5 : w3.cell? ⟨gb114, 5, none⟩ = some (.string a0_5) := ct BK114 5; have hcz22_6 : w3.cell? ⟨gb114, 6, none⟩ = some (.string a0_6) := ct BK114 6; have hcz22_7 : w3.cell? ⟨gb114, 7, none⟩ = some (.int .i64 a0_7) := ct BK114 7; have hcz22_8 : w3.cell? ⟨gb114, 8, none⟩ = some (.slice A0_8 l0_8.length c0_8) := ct BK114 8; have hcz22_9 : w3.cell? ⟨gb114, 9, none⟩ = some (.slice A0_9 l0_9.length c0_9) := ct BK114 9; have hcz22_10 : w3.cell? ⟨gb114, 10, none⟩ = some (.slice A0_10 l0_10.length c0_10) := ct BK114 10; have hfz22_0 := blk_frozen BK114.out 0; have hfz22_1 := blk_frozen BK114.out 1; have hfz22_2 := blk_frozen BK114.out 2; have hfz22_3 := blk_frozen BK114.out 3; have hfz22_4 := blk_frozen BK114.out 4; have hfz22_5 := blk_frozen BK114.out 5; have hfz22_6 := blk_frozen BK114.out 6; have hfz22_7 := blk_frozen BK114.out 7; have hfz22_8 := blk_frozen BK114.out 8; have hfz22_9 := blk_frozen BK114.out 9; have hfz22_10 := blk_frozen BK114.out 10
    go_wp2_with (first | ((with_reducible refine gate_callee (f := 34) rfl ?_); refine zC 6 Try.func34 #[.int .i64 a0_0, .int .i64 1, .int .i64 1000] ?_; (with_reducible refine (dioramaref03_in.calls a0_0 1 1000 true _ A4.out).mono ?_); rintro e w' ⟨rfl, ⟨nd, rfl⟩⟩; refine ⟨_, rfl, ?_⟩) | (go_at_call 34; (with_reducible refine (dioramaref03_in.calls a0_1 1 7 false _ A6.out).mono ?_); rintro e w' ⟨rfl, ⟨nd, rfl⟩⟩))
    go_meet
    case rel => exact ⟨_, (true), jz, H', ⟨by first | omega | exact Nat.le_refl _⟩, ⟨kz⟩, ⟨bz⟩⟩
  ·obtain rfl := bf c5; rw [if_neg (show ¬ (false = true) by decide)] at H; have H' := Aside0.mk H; clear H; have hcz23_0 : w3.cell? ⟨gb114, 0, none⟩ = some (.int .i64 a0_0) := ct BK114 0; have hcz23_1 : w3.cell? ⟨gb114, 1, none⟩ = some (.int .i64 a0_1) := ct BK114 1; have hcz23_2 : w3.cell? ⟨gb114, 2, none⟩ = some (.string a0_2) := ct BK114 2; have hcz23_3 : w3.cell? ⟨gb114, 3, none⟩ = some (.int .i64 a0_3) := ct BK114 3; have hcz23_4 : w3.cell? ⟨gb114, 4, none⟩ = some (.slice A0_4 l0_4.length c0_4) := ct BK114 4; have hcz23_5 : w3.cell? ⟨gb114, 5, none⟩ = some (.string a0_5) := ct BK114 5; have hcz23_6 : w3.cell? ⟨gb114, 6, none⟩ = some (.string a0_6) := ct BK114 6; have hcz23_7 : w3.cell? ⟨gb114, 7, none⟩ = some (.int .i64 a0_7) := ct BK114 7; have hcz23_8 : w3.cell? ⟨gb114, 8, none⟩ = some (.slice A0_8 l0_8.length c0_8) := ct BK114 8; have hcz23_9 : w3.cell? ⟨gb114, 9, none⟩ = some (.slice A0_9 l0_9.length c0_9) := ct BK114 9; have hcz23_10 : w3.cell? ⟨gb114, 10, none⟩ = some (.slice A0_10 l0_10.length c0_10) := ct BK114 10; have hfz23_0 := blk_frozen BK114.out 0; have hfz23_1 := blk_frozen BK114.out 1; have hfz23_2 := blk_frozen BK114.out 2; have hfz23_3 := blk_frozen BK114.out 3; have hfz23_4 := blk_frozen BK114.out 4; have hfz23_5 := blk_frozen BK114.out 5; have hfz23_6 := blk_frozen BK114.out 6; have hfz23_7 := blk_frozen BK114.out 7; have hfz23_8 := blk_frozen BK114.out 8; have hfz23_9 := blk_frozen BK114.out 9; have hfz23_10 := blk_frozen BK114.out 10
   go_wp2_with (first | ((with_reducible refine gate_callee (f := 34) rfl ?_); refine zC 6 Try.func34 #[.int .i64 a0_0, .int .i64 1, .int .i64 1000] ?_; (with_reducible refine (dioramaref03_in.calls a0_0 1 1000 false _ A4.out).mono ?_); rintro e w' ⟨rfl, ⟨nd, rfl⟩⟩; refine ⟨_, rfl, ?_⟩))
   go_meet
   case rel => exact ⟨_, (true), jz, H', ⟨by first | omega | exact Nat.le_refl _⟩, ⟨kz⟩, ⟨bz⟩⟩
 case rest =>
  clear HC2
  try clear c1
  try clear p2
  try clear c3
  try clear c4
  try clear c5
  try clear c7
  try clear c9
  try clear c11
  try clear c13
  try clear c15
  try clear hcz17_0
  try clear hcz17_1
  try clear hcz17_10
  try clear hcz17_2
  try clear hcz17_3
  try clear hcz17_4
  try clear hcz17_5
  try clear hcz17_6
  try clear hcz17_7
  try clear hcz17_8
  try clear hcz17_9
  try clear hcz18_0
  try clear hcz18_1
  try clear hcz18_10
  try clear hcz18_2
  try clear hcz18_3
  try clear hcz18_4
  try clear hcz18_5
  try clear hcz18_6
  try clear hcz18_7
  try clear hcz18_8
  try clear hcz18_9
  try clear hcz19_0
  try clear hcz19_1
  try clear hcz19_10
  try clear hcz19_2
  try clear hcz19_3
  try clear hcz19_4
  try clear hcz19_5
  try clear hcz19_6
  try clear hcz19_7
  try clear hcz19_8
  try clear hcz19_9
  try clear hcz20_0
  try clear hcz20_1
  try clear hcz20_10
  try clear hcz20_2
  try clear hcz20_3
  try clear hcz20_4
  try clear hcz20_5
  try clear hcz20_6
  try clear hcz20_7
  try clear hcz20_8
  try clear hcz20_9
  try clear hcz21_0
  try clear hcz21_1
  try clear hcz21_10
  try clear hcz21_2
  try clear hcz21_3
  try clear hcz21_4
  try clear hcz21_5
  try clear hcz21_6
  try clear hcz21_7
  try clear hcz21_8
  try clear hcz21_9
  try clear hcz22_0
  try clear hcz22_1
  try clear hcz22_10
  try clear hcz22_2
  try clear hcz22_3
  try clear hcz22_4
  try clear hcz22_5
  try clear hcz22_6
  try clear hcz22_7
  try clear hcz22_8
  try clear hcz22_9
  try clear hcz23_0
  try clear hcz23_1
  try clear hcz23_10
  try clear hcz23_2
  try clear hcz23_3
  try clear hcz23_4
  try clear hcz23_5
  try clear hcz23_6
  try clear hcz23_7
  try clear hcz23_8
  try clear hcz23_9
  try clear hfz17_0
  try clear hfz17_1
  try clear hfz17_10
  try clear hfz17_2
  try clear hfz17_3
  try clear hfz17_4
  try clear hfz17_5
  try clear hfz17_6
  try clear hfz17_7
  try clear hfz17_8
  try clear hfz17_9
  try clear hfz18_0
  try clear hfz18_1
  try clear hfz18_10
  try clear hfz18_2
  try clear hfz18_3
  try clear hfz18_4
  try clear hfz18_5
  try clear hfz18_6
  try clear hfz18_7
  try clear hfz18_8
  try clear hfz18_9
  try clear hfz19_0
  try clear hfz19_1
  try clear hfz19_10
  try clear hfz19_2
  try clear hfz19_3
  try clear hfz19_4
  try clear hfz19_5
  try clear hfz19_6
  try clear hfz19_7
  try clear hfz19_8
  try clear hfz19_9
  try clear hfz20_0
  try clear hfz20_1
  try clear hfz20_10
  try clear hfz20_2
  try clear hfz20_3
  try clear hfz20_4
  try clear hfz20_5
  try clear hfz20_6
  try clear hfz20_7
  try clear hfz20_8
  try clear hfz20_9
  try clear hfz21_0
  try clear hfz21_1
  try clear hfz21_10
  try clear hfz21_2
  try clear hfz21_3
  try clear hfz21_4
  try clear hfz21_5
  try clear hfz21_6
  try clear hfz21_7
  try clear hfz21_8
  try clear hfz21_9
  try clear hfz22_0
  try clear hfz22_1
  try clear hfz22_10
  try clear hfz22_2
  try clear hfz22_3
  try clear hfz22_4
  try clear hfz22_5
  try clear hfz22_6
  try clear hfz22_7
  try clear hfz22_8
  try clear hfz22_9
  try clear hfz23_0
  try clear hfz23_1
  try clear hfz23_10
  try clear hfz23_2
  try clear hfz23_3
  try clear hfz23_4
  try clear hfz23_5
  try clear hfz23_6
  try clear hfz23_7
  try clear hfz23_8
  try clear hfz23_9
  obtain ⟨kq, x43_1, rfl, HA, HJ1, BK114, HB⟩ := hcut
  cases kq with
  | zero => exact absurd HA.out (by simp [dioramaref03_fields.j0])
  | succ kj1 =>
   have H := HA.out; clear HA; simp only [dioramaref03_fields.j0] at H
   by_cases c24 : x43_1 = true
   ·subst c24; rw [if_pos rfl] at H; obtain rfl := Option.some.inj H
    go_wp2
    go_ret
    exact ⟨ez, bz⟩
   ·obtain rfl := bf c24; rw [if_neg (show ¬ (false = true) by decide)] at H; have H' := Aside0.mk H; clear H
    go_wp2
    go_loopg [3] kj1 (fun kq v3 w' => ∃ (x3_2 : Int), v3 = .int .i64 x3_2 ∧ Aside0 (dioramaref03_fields.l0 kq x3_2 a0_0 a0_1 a0_2 a0_3 l0_4 a0_5 a0_6 a0_7 l0_8 l0_9 l0_10 = some r) ∧ Aside0 (kq ≤ kj1) ∧ Aside0 (w'.heap[gb114]? = some (.cells #[.int .i64 a0_0, .int .i64 a0_1, .string a0_2, .int .i64 a0_3, (.slice A0_4 l0_4.length c0_4), .string a0_5, .string a0_6, .int .i64 a0_7, (.slice A0_8 l0_8.length c0_8), (.slice A0_9 l0_9.length c0_9), (.slice A0_10 l0_10.length c0_10)] 40 (0, 0))) ∧ Aside0 (Below w.heap.size w w'))
    case atStart => exact ⟨(0), jz, H', ⟨Nat.le_refl _⟩, ⟨kz⟩, ⟨bz⟩⟩
    case round =>
     clear H'
     try clear c1
     try clear c2
     try clear p2
     try clear c3
     try clear c4
     try clear c5
     try clear c7
     try clear c9
     try clear c11
     try clear c13
     try clear c15
     try clear c24
     try clear hcz17_0
     try clear hcz17_1
     try clear hcz17_10
     try clear hcz17_2
     try clear hcz17_3
     try clear hcz17_4
     try clear hcz17_5
     try clear hcz17_6
     try clear hcz17_7
     try clear hcz17_8
     try clear hcz17_9
     try clear hcz18_0
     try clear hcz18_1
     try clear hcz18_10
     try clear hcz18_2
     try clear hcz18_3
     try clear hcz18_4
     try clear hcz18_5
     try clear hcz18_6
     try clear hcz18_7
     try clear hcz18_8
     try clear hcz18_9
     try clear hcz19_0
     try clear hcz19_1
     try clear hcz19_10
     try clear hcz19_2
     try clear hcz19_3
     try clear hcz19_4
     try clear hcz19_5
     try clear hcz19_6
     try clear hcz19_7
     try clear hcz19_8
     try clear hcz19_9
     try clear hcz20_0
     try clear hcz20_1
     try clear hcz20_10
     try clear hcz20_2
     try clear hcz20_3
     try clear hcz20_4
     try clear hcz20_5
     try clear hcz20_6
     try clear hcz20_7
     try clear hcz20_8
     try clear hcz20_9
     try clear hcz21_0
     try clear hcz21_1
     try clear hcz21_10
     try clear hcz21_2
     try clear hcz21_3
     try clear hcz21_4
     try clear hcz21_5
     try clear hcz21_6
     try clear hcz21_7
     try clear hcz21_8
     try clear hcz21_9
     try clear hcz22_0
     try clear hcz22_1
     try clear hcz22_10
     try clear hcz22_2
     try clear hcz22_3
     try clear hcz22_4
     try clear hcz22_5
     try clear hcz22_6
     try clear hcz22_7
     try clear hcz22_8
     try clear hcz22_9
     try clear hcz23_0
     try clear hcz23_1
     try clear hcz23_10
     try clear hcz23_2
     try clear hcz23_3
     try clear hcz23_4
     try clear hcz23_5
     try clear hcz23_6
     try clear hcz23_7
     try clear hcz23_8
     try clear hcz23_9
     try clear hfz17_0
     try clear hfz17_1
     try clear hfz17_10
     try clear hfz17_2
     try clear hfz17_3
     try clear hfz17_4
     try clear hfz17_5
     try clear hfz17_6
     try clear hfz17_7
     try clear hfz17_8
     try clear hfz17_9
     try clear hfz18_0
     try clear hfz18_1
     try clear hfz18_10
     try clear hfz18_2
     try clear hfz18_3
     try clear hfz18_4
     try clear hfz18_5
     try clear hfz18_6
     try clear hfz18_7
     try clear hfz18_8
     try clear hfz18_9
     try clear hfz19_0
     try clear hfz19_1
     try clear hfz19_10
     try clear hfz19_2
     try clear hfz19_3
     try clear hfz19_4
     try clear hfz19_5
     try clear hfz19_6
     try clear hfz19_7
     try clear hfz19_8
     try clear hfz19_9
     try clear hfz20_0
     try clear hfz20_1
     try clear hfz20_10
     try clear hfz20_2
     try clear hfz20_3
     try clear hfz20_4
     try clear hfz20_5
     try clear hfz20_6
     try clear hfz20_7
     try clear hfz20_8
     try clear hfz20_9
     try clear hfz21_0
     try clear hfz21_1
     try clear hfz21_10
     try clear hfz21_2
     try clear hfz21_3
     try clear hfz21_4
     try clear hfz21_5
     try clear hfz21_6
     try clear hfz21_7
     try clear hfz21_8
     try clear hfz21_9
     try clear hfz22_0
     try clear hfz22_1
     try clear hfz22_10
     try clear hfz22_2
     try clear hfz22_3
     try clear hfz22_4
     try clear hfz22_5
     try clear hfz22_6
     try clear hfz22_7
     try clear hfz22_8
     try clear hfz22_9
     try clear hfz23_0
     try clear hfz23_1
     try clear hfz23_10
     try clear hfz23_2
     try clear hfz23_3
     try clear hfz23_4
     try clear hfz23_5
     try clear hfz23_6
     try clear hfz23_7
     try clear hfz23_8
     try clear hfz23_9
     try clear p2
     obtain ⟨x3_2, rfl, HA, HK2, BK114, HB⟩ := hrel
     cases gk with
     | zero => exact absurd HA.out (by simp [dioramaref03_fields.l0])
     | succ k2 =>
      have H := HA.out; clear HA; simp only [dioramaref03_fields.l0] at H
      by_cases c25 : x3_2 < (l0_9.length : Int)
      ·rw [if_pos c25] at H; have c25b0 : decide (x3_2 < (l0_9.length : Int)) = true := decide_eq_true c25; clear c25
       by_cases c26 : 0 ≤ x3_2
       ·rw [if_pos c26] at H; have c26b0 : decide (0 ≤ x3_2) = true := decide_eq_true c26; clear c26; obtain ⟨t123, A27, H⟩ := ob H
        by_cases c28 : t123 = true
        ·subst c28; rw [if_pos rfl] at H; have H' := Aside0.mk H; clear H; have hcz29_0 : wr.cell? ⟨gb114, 0, none⟩ = some (.int .i64 a0_0) := ct BK114 0; have hcz29_1 : wr.cell? ⟨gb114, 1, none⟩ = some (.int .i64 a0_1) := ct BK114 1; have hcz29_2 : wr.cell? ⟨gb114, 2, none⟩ = some (.string a0_2) := ct BK114 2; have hcz29_3 : wr.cell? ⟨gb114, 3, none⟩ = some (.int .i64 a0_3) := ct BK114 3; have hcz29_4 : wr.cell? ⟨gb114, 4, none⟩ = some (.slice A0_4 l0_4.length c0_4) := ct BK114 4; have hcz29_5 : wr.cell? ⟨gb114, 5, none⟩ = some (.string a0_5) := ct BK114 5; have hcz29_6 : wr.cell? ⟨gb114, 6, none⟩ = some (.string a0_6) := ct BK114 6; have hcz29_7 : wr.cell? ⟨gb114, 7, none⟩ = some (.int .i64 a0_7) := ct BK114 7; have hcz29_8 : wr.cell? ⟨gb114, 8, none⟩ = some (.slice A0_8 l0_8.length c0_8) := ct BK114 8; have hcz29_9 : wr.cell? ⟨gb114, 9, none⟩ = some (.slice A0_9 l0_9.length c0_9) := ct BK114 9; have hcz29_10 : wr.cell? ⟨gb114, 10, none⟩ = some (.slice A0_10 l0_10.length c0_10) := ct BK114 10; have hfz29_0 := blk_frozen BK114.out 0; have hfz29_1 := blk_frozen BK114.out 1; have hfz29_2 := blk_frozen BK114.out 2; have hfz29_3 := blk_frozen BK114.out 3; have hfz29_4 := blk_frozen BK114.out 4; have hfz29_5 := blk_frozen BK114.out 5; have hfz29_6 := blk_frozen BK114.out 6; have hfz29_7 := blk_frozen BK114.out 7; have hfz29_8 := blk_frozen BK114.out 8; have hfz29_9 := blk_frozen BK114.out 9; have hfz29_10 := blk_frozen BK114.out 10; have p122 : 0 ≤ (x3_2 : Int) := od; have q122 : x3_2 < (l0_9.length : Int) := od; obtain ⟨ad122, e122, hx122_0, hx122_1⟩ := at_T68 HR0_9.out x3_2 p122 q122
         cases e122
         replace hx122_0 := cl HB hx122_0; replace hx122_1 := cl HB hx122_1; replace p122 := eq_true p122; replace q122 := eq_true q122
         go_wp2_with (first | ((with_reducible refine gate_callee (f := 61) rfl ?_); refine zC 57 Try.func61 #[.string ((rd_T68 l0_9 x3_2).f0)] ?_; (with_reducible refine (dioramaref03_Letters.calls k2 ((rd_T68 l0_9 x3_2).f0) true _ A27.out).mono ?_); rintro e w' ⟨rfl, ⟨nd, rfl⟩⟩; refine ⟨_, rfl, ?_⟩))
         go_roundg k2
         case measure => have := HJ1.out; have := HK2.out; omega
         case rel => exact ⟨(wrap64 (x3_2 + 1)), jz, H', ⟨by have := HJ1.out; have := HK2.out; omega⟩, ⟨kz⟩, ⟨bz⟩⟩
        ·obtain rfl := bf c28; rw [if_neg (show ¬ (false = true) by decide)] at H; obtain rfl := Option.some.inj H; have hcz30_0 : wr.cell? ⟨gb114, 0, none⟩ = some (.int .i64 a0_0) := ct BK114 0; have hcz30_1 : wr.cell? ⟨gb114, 1, none⟩ = some (.int .i64 a0_1) := ct BK114 1; have hcz30_2 : wr.cell? ⟨gb114, 2, none⟩ = some (.string a0_2) := ct BK114 2; have hcz30_3 : wr.cell? ⟨gb114, 3, none⟩ = some (.int .i64 a0_3) := ct BK114 3; have hcz30_4 : wr.cell? ⟨gb114, 4, none⟩ = some (.slice A0_4 l0_4.length c0_4) := ct BK114 4; have hcz30_5 : wr.cell? ⟨gb114, 5, none⟩ = some (.string a0_5) := ct BK114 5; have hcz30_6 : wr.cell? ⟨gb114, 6, none⟩ = some (.string a0_6) := ct BK114 6; have hcz30_7 : wr.cell? ⟨gb114, 7, none⟩ = some (.int .i64 a0_7) := ct BK114 7; have hcz30_8 : wr.cell? ⟨gb114, 8, none⟩ = some (.slice A0_8 l0_8.length c0_8) := ct BK114 8; have hcz30_9 : wr.cell? ⟨gb114, 9, none⟩ = some (.slice A0_9 l0_9.length c0_9) := ct BK114 9; have hcz30_10 : wr.cell? ⟨gb114, 10, none⟩ = some (.slice A0_10 l0_10.length c0_10) := ct BK114 10; have hfz30_0 := blk_frozen BK114.out 0; have hfz30_1 := blk_frozen BK114.out 1; have hfz30_2 := blk_frozen BK114.out 2; have hfz30_3 := blk_frozen BK114.out 3; have hfz30_4 := blk_frozen BK114.out 4; have hfz30_5 := blk_frozen BK114.out 5; have hfz30_6 := blk_frozen BK114.out 6; have hfz30_7 := blk_frozen BK114.out 7; have hfz30_8 := blk_frozen BK114.out 8; have hfz30_9 := blk_frozen BK114.out 9; have hfz30_10 := blk_frozen BK114.out 10; have p122 : 0 ≤ (x3_2 : Int) := od; have q122 : x3_2 < (l0_9.length : Int) := od; obtain ⟨ad122, e122, hx122_0, hx122_1⟩ := at_T68 HR0_9.out x3_2 p122 q122
         cases e122
         replace hx122_0 := cl HB hx122_0; replace hx122_1 := cl HB hx122_1; replace p122 := eq_true p122; replace q122 := eq_true q122
         go_wp2_with (first | ((with_reducible refine gate_callee (f := 61) rfl ?_); refine zC 57 Try.func61 #[.string ((rd_T68 l0_9 x3_2).f0)] ?_; (with_reducible refine (dioramaref03_Letters.calls k2 ((rd_T68 l0_9 x3_2).f0) false _ A27.out).mono ?_); rintro e w' ⟨rfl, ⟨nd, rfl⟩⟩; refine ⟨_, rfl, ?_⟩))
         go_ret
         exact ⟨ez, bz⟩
       ·rw [if_neg c26] at H
        exact absurd H (by simp)
      ·rw [if_neg c25] at H; have c25b0 : decide (x3_2 < (l0_9.length : Int)) = false := decide_eq_false c25; clear c25; obtain rfl := Option.some.inj H; have hcz31_0 : wr.cell? ⟨gb114, 0, none⟩ = some (.int .i64 a0_0) := ct BK114 0; have hcz31_1 : wr.cell? ⟨gb114, 1, none⟩ = some (.int .i64 a0_1) := ct BK114 1; have hcz31_2 : wr.cell? ⟨gb114, 2, none⟩ = some (.string a0_2) := ct BK114 2; have hcz31_3 : wr.cell? ⟨gb114, 3, none⟩ = some (.int .i64 a0_3) := ct BK114 3; have hcz31_4 : wr.cell? ⟨gb114, 4, none⟩ = some (.slice A0_4 l0_4.length c0_4) := ct BK114 4; have hcz31_5 : wr.cell? ⟨gb114, 5, none⟩ = some (.string a0_5) := ct BK114 5; have hcz31_6 : wr.cell? ⟨gb114, 6, none⟩ = some (.string a0_6) := ct BK114 6; have hcz31_7 : wr.cell? ⟨gb114, 7, none⟩ = some (.int .i64 a0_7) := ct BK114 7; have hcz31_8 : wr.cell? ⟨gb114, 8, none⟩ = some (.slice A0_8 l0_8.length c0_8) := ct BK114 8; have hcz31_9 : wr.cell? ⟨gb114, 9, none⟩ = some (.slice A0_9 l0_9.length c0_9) := ct BK114 9; have hcz31_10 : wr.cell? ⟨gb114, 10, none⟩ = some (.slice A0_10 l0_10.length c0_10) := ct BK114 10; have hfz31_0 := blk_frozen BK114.out 0; have hfz31_1 := blk_frozen BK114.out 1; have hfz31_2 := blk_frozen BK114.out 2; have hfz31_3 := blk_frozen BK114.out 3; have hfz31_4 := blk_frozen BK114.out 4; have hfz31_5 := blk_frozen BK114.out 5; have hfz31_6 := blk_frozen BK114.out 6; have hfz31_7 := blk_frozen BK114.out 7; have hfz31_8 := blk_frozen BK114.out 8; have hfz31_9 := blk_frozen BK114.out 9; have hfz31_10 := blk_frozen BK114.out 10
       go_wp2
       go_ret
       exact ⟨ez, bz⟩
end Go.Proofs.Ytknklchmpohjfaa.E

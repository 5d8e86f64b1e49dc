/-
  Plain arithmetic of numbers written as lists of digits, the lowest first: values, bounds, comparison. No program in sight.
-/
import Derived.RowKit
namespace Go.Proofs.Ytpbhepdgamoiaaa.Ml

/-- The value of digits at a base, the lowest digit first. -/
def dv (B : Int) : List Int → Int
  | [] => 0
  | x :: l => x + B * dv B l
/-- The base's powers. -/
def pw (B : Int) : Nat → Int
  | 0 => 1
  | n + 1 => pw B n * B
theorem pw_zero (B : Int) : pw B 0 = 1 := rfl
theorem pw_succ (B : Int) (n : Nat) : pw B (n + 1) = pw B n * B := rfl
theorem pw_add (B : Int) (m n : Nat) : pw B (m + n) = pw B m * pw B n := by
  induction n with
  | zero => simp [pw]
  | succ n ih => rw [← Nat.add_assoc, pw_succ, ih, pw_succ, Int.mul_assoc]
/-- Digits of a base. -/
def Dg (B : Int) (l : List Int) : Prop := ∀ x ∈ l, 0 ≤ x ∧ x < B
/-- No zero at the end. -/
def Top (l : List Int) : Prop := ∀ h : l ≠ [], l.getLast h ≠ 0
structure Cn (B : Int) (l : List Int) : Prop where
  dg : Dg B l
  top : Top l

theorem Dg.nil (B : Int) : Dg B [] := by simp [Dg]
theorem Dg.cons {B x : Int} {l : List Int} (h0 : 0 ≤ x) (h1 : x < B) (h : Dg B l) : Dg B (x :: l) := by
  intro y hy
  rcases List.mem_cons.1 hy with rfl | hy
  · exact ⟨h0, h1⟩
  · exact h y hy
theorem Dg.tail {B x : Int} {l : List Int} (h : Dg B (x :: l)) : Dg B l := fun y hy => h y (List.mem_cons_of_mem _ hy)
theorem Dg.head {B x : Int} {l : List Int} (h : Dg B (x :: l)) : 0 ≤ x ∧ x < B := h x List.mem_cons_self
theorem Dg.append {B : Int} {a b : List Int} (ha : Dg B a) (hb : Dg B b) : Dg B (a ++ b) := fun y hy => by
  rcases List.mem_append.1 hy with h | h
  · exact ha y h
  · exact hb y h
theorem Dg.left {B : Int} {a b : List Int} (h : Dg B (a ++ b)) : Dg B a := fun y hy => h y (List.mem_append_left _ hy)
theorem Dg.right {B : Int} {a b : List Int} (h : Dg B (a ++ b)) : Dg B b := fun y hy => h y (List.mem_append_right _ hy)
theorem Dg.take {B : Int} {a : List Int} (h : Dg B a) (n : Nat) : Dg B (a.take n) := fun y hy => h y (List.mem_of_mem_take hy)
theorem Dg.drop {B : Int} {a : List Int} (h : Dg B a) (n : Nat) : Dg B (a.drop n) := fun y hy => h y (List.mem_of_mem_drop hy)
theorem Dg.set {B : Int} {a : List Int} (h : Dg B a) (i : Nat) {v : Int} (h0 : 0 ≤ v) (h1 : v < B) : Dg B (a.set i v) := fun y hy => by
  rcases List.mem_or_eq_of_mem_set hy with h' | rfl
  · exact h y h'
  · exact ⟨h0, h1⟩
theorem Dg.getD {B : Int} {a : List Int} (h : Dg B a) (hB : 0 < B) (i : Nat) : 0 ≤ a.getD i 0 ∧ a.getD i 0 < B := by
  rw [List.getD_eq_getElem?_getD]
  by_cases hi : i < a.length
  · rw [List.getElem?_eq_getElem hi]
    exact h _ (List.getElem_mem hi)
  · rw [List.getElem?_eq_none (by omega)]
    exact ⟨Int.le_refl 0, hB⟩
theorem Dg.replicate {B : Int} (hB : 0 < B) (n : Nat) : Dg B (List.replicate n 0) := fun y hy => by
  obtain ⟨_, rfl⟩ := List.mem_replicate.1 hy
  exact ⟨Int.le_refl 0, hB⟩

theorem dv_append (B : Int) (a b : List Int) : dv B (a ++ b) = dv B a + pw B a.length * dv B b := by
  induction a with
  | nil => simp [dv, pw]
  | cons x a ih =>
    simp only [List.cons_append, dv, List.length_cons, ih, pw_succ]
    grind
theorem dv_nonneg {B : Int} (hB : 0 < B) {l : List Int} (h : Dg B l) : 0 ≤ dv B l := by
  induction l with
  | nil => simp [dv]
  | cons x l ih =>
    have := h.head
    have := Int.mul_nonneg (Int.le_of_lt hB) (ih h.tail)
    simp only [dv]
    omega
theorem pow_pos {B : Int} (hB : 0 < B) (n : Nat) : 0 < pw B n := by
  induction n with
  | zero => exact Int.one_pos
  | succ n ih => exact Int.mul_pos ih hB
theorem dv_lt {B : Int} (hB : 0 < B) {l : List Int} (h : Dg B l) : dv B l < pw B l.length := by
  induction l with
  | nil => simp [dv, pw]
  | cons x l ih =>
    have h1 := h.head
    have h2 := ih h.tail
    have h3 : B * (dv B l + 1) ≤ B * pw B l.length := Int.mul_le_mul_of_nonneg_left (by omega) (Int.le_of_lt hB)
    simp only [dv, List.length_cons, pw_succ]
    rw [Int.mul_add, Int.mul_comm B (pw B l.length)] at h3
    omega
theorem dv_replicate (B : Int) (n : Nat) : dv B (List.replicate n 0) = 0 := by
  induction n with
  | zero => rfl
  | succ n ih => simp [List.replicate_succ, dv, ih]
theorem dv_set (B : Int) (l : List Int) (i : Nat) (v : Int) (hi : i < l.length) : dv B (l.set i v) = dv B l + (v - l.getD i 0) * pw B i := by
  induction l generalizing i with
  | nil => simp at hi
  | cons x l ih =>
    cases i with
    | zero => simp [dv, pw]; omega
    | succ i =>
      have := ih i (by simpa using hi)
      simp only [List.set_cons_succ, dv, this, List.getD_cons_succ, pw_succ]
      grind
theorem dv_take_succ (B : Int) (l : List Int) (i : Nat) (hi : i < l.length) : dv B (l.take (i + 1)) = dv B (l.take i) + l.getD i 0 * pw B i := by
  rw [List.take_succ_eq_append_getElem hi, dv_append, List.length_take, Nat.min_eq_left (by omega)]
  simp only [dv, List.getD_eq_getElem?_getD, List.getElem?_eq_getElem hi, Option.getD_some]
  grind
theorem dv_split (B : Int) (l : List Int) (i : Nat) (hi : i ≤ l.length) : dv B l = dv B (l.take i) + pw B i * dv B (l.drop i) := by
  have := dv_append B (l.take i) (l.drop i)
  rw [List.take_append_drop, List.length_take, Nat.min_eq_left hi] at this
  exact this
theorem dv_drop (B : Int) (l : List Int) (i : Nat) (hi : i < l.length) : dv B (l.drop i) = l.getD i 0 + B * dv B (l.drop (i + 1)) := by
  rw [List.drop_eq_getElem_cons hi]
  simp only [dv, List.getD_eq_getElem?_getD, List.getElem?_eq_getElem hi, Option.getD_some]
theorem dv_snoc (B : Int) (l : List Int) (x : Int) : dv B (l ++ [x]) = dv B l + x * pw B l.length := by
  rw [dv_append]
  simp only [dv]
  grind
/-- Digits with a top digit above 0 are no less than the power below them. -/
theorem dv_ge {B : Int} (hB : 0 < B) {l : List Int} (h : Cn B l) (hne : l ≠ []) : pw B (l.length - 1) ≤ dv B l := by
  have h1 := List.dropLast_concat_getLast hne
  have h2 : Dg B l.dropLast := fun y hy => h.dg y (List.dropLast_subset l hy)
  have h3 := h.dg _ (List.getLast_mem hne)
  have h4 := h.top hne
  have h5 := dv_nonneg hB h2
  have h6 : 0 < pw B l.dropLast.length := pow_pos hB _
  have h7 : 1 * pw B l.dropLast.length ≤ l.getLast hne * pw B l.dropLast.length := Int.mul_le_mul_of_nonneg_right (by omega) (Int.le_of_lt h6)
  rw [← h1, dv_snoc]
  have h8 : (l.dropLast ++ [l.getLast hne]).length - 1 = l.dropLast.length := by simp
  rw [h8]
  omega
theorem dv_pos {B : Int} (hB : 0 < B) {l : List Int} (h : Cn B l) (hne : l ≠ []) : 0 < dv B l :=
  Int.lt_of_lt_of_le (pow_pos hB _) (dv_ge hB h hne)
theorem dv_eq_zero {B : Int} (hB : 0 < B) {l : List Int} (h : Cn B l) : dv B l = 0 ↔ l = [] := by
  constructor
  · intro h0
    cases l with
    | nil => rfl
    | cons x l =>
      have := dv_pos hB h (by simp)
      omega
  · rintro rfl
    rfl
theorem pow_le {B : Int} (hB : 1 ≤ B) {m n : Nat} (h : m ≤ n) : pw B m ≤ pw B n := by
  obtain ⟨d, rfl⟩ : ∃ d, n = m + d := ⟨n - m, by omega⟩
  clear h
  induction d with
  | zero => exact Int.le_refl _
  | succ d ih =>
    have h1 : pw B (m + d) * 1 ≤ pw B (m + d) * B := Int.mul_le_mul_of_nonneg_left hB (Int.le_of_lt (pow_pos (by omega) _))
    rw [← Nat.add_assoc, pw_succ]
    omega
/-- A longer number is a greater one. -/
theorem dv_len {B : Int} (hB : 0 < B) {a b : List Int} (ha : Dg B a) (hb : Cn B b) (hl : a.length < b.length) : dv B a < dv B b := by
  have hne : b ≠ [] := by
    rintro rfl
    simp at hl
  have h1 := dv_lt hB ha
  have h2 := dv_ge hB hb hne
  have h3 : pw B a.length ≤ pw B (b.length - 1) := pow_le hB (by omega)
  omega
/-- The highest digits are the same, the next one is less. -/
theorem dv_less {B : Int} (hB : 0 < B) {a b : List Int} (ha : Dg B a) (hb : Dg B b) (hl : a.length = b.length) (i : Nat) (hi : i < a.length) (hs : dv B (a.drop (i + 1)) = dv B (b.drop (i + 1))) (hlt : a.getD i 0 < b.getD i 0) : dv B a < dv B b := by
  have h1 := dv_split B a (i + 1) (by omega)
  have h2 := dv_split B b (i + 1) (by omega)
  have h3 := dv_take_succ B a i hi
  have h4 := dv_take_succ B b i (by omega)
  have h5 := dv_lt hB (ha.take i)
  have h6 := dv_nonneg hB (hb.take i)
  rw [List.length_take, Nat.min_eq_left (by omega)] at h5
  have h7 : (a.getD i 0 + 1) * pw B i ≤ b.getD i 0 * pw B i := Int.mul_le_mul_of_nonneg_right (by omega) (Int.le_of_lt (pow_pos hB i))
  rw [Int.add_mul] at h7
  rw [h1, h2, h3, h4, hs]
  omega
theorem getD_ge {l : List Int} {i : Nat} (h : l.length ≤ i) : l.getD i 0 = 0 := by
  rw [List.getD_eq_getElem?_getD, List.getElem?_eq_none h]
  rfl
theorem dv_take_succ' (B : Int) (l : List Int) (i : Nat) : dv B (l.take (i + 1)) = dv B (l.take i) + l.getD i 0 * pw B i := by
  by_cases hi : i < l.length
  · exact dv_take_succ B l i hi
  · rw [List.take_of_length_le (by omega), List.take_of_length_le (by omega), getD_ge (by omega)]
    omega
theorem getD_set {l : List Int} {i j : Nat} {v : Int} (h : i ≠ j) : (l.set i v).getD j 0 = l.getD j 0 := by
  simp [List.getD_eq_getElem?_getD, List.getElem?_set_ne h]
theorem getD_set_self {l : List Int} {i : Nat} {v : Int} (h : i < l.length) : (l.set i v).getD i 0 = v := by
  simp [List.getD_eq_getElem?_getD, List.getElem?_set_self h]
theorem mul_lt_sq {B x y : Int} (h0 : 0 ≤ x) (h1 : x < B) (h2 : 0 ≤ y) (h3 : y < B) : 0 ≤ x * y ∧ x * y ≤ (B - 1) * (B - 1) :=
  ⟨Int.mul_nonneg h0 h2, Int.mul_le_mul (by omega) (by omega) h2 (by omega)⟩
theorem dv_nil (B : Int) : dv B [] = 0 := rfl
theorem Cn.nil (B : Int) : Cn B [] := ⟨Dg.nil B, fun h => absurd rfl h⟩
theorem top_of_getD {l : List Int} (h : l.getD (l.length - 1) 0 ≠ 0) : Top l := by
  intro hne
  have hp : 0 < l.length := List.length_pos_iff.2 hne
  rw [List.getLast_eq_getElem]
  rw [List.getD_eq_getElem?_getD, List.getElem?_eq_getElem (by omega)] at h
  exact h
theorem top_getD {l : List Int} (h : Top l) (hne : 0 < l.length) : l.getD (l.length - 1) 0 ≠ 0 := by
  have h1 := h (List.length_pos_iff.1 hne)
  rw [List.getLast_eq_getElem] at h1
  rw [List.getD_eq_getElem?_getD, List.getElem?_eq_getElem (by omega)]
  exact h1
end Go.Proofs.Ytpbhepdgamoiaaa.Ml

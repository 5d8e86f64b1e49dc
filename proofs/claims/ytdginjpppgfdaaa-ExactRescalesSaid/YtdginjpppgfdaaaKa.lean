/-
  Plain arithmetic of numbers written as lists of digits, the lowest first: values, bounds, comparison. No program in sight. Plain: what the printed functions over limbs (base 2^32) come to, as numbers. Words for whole numbers of any size in memory: where one lies, what it is worth, what a call that sets one leaves as it was. What the calls of package num do to numbers in memory: set, SetInt64, NewInt, Mul. The sum of limbs: the walk of num.addMag. What the calls of package num do to numbers in memory: CmpAbs, Cmp, Sign, Int64, Add, Sub. Limbs moved up by some bits: the walk of num.shift. Plain: the step of long division that guesses a digit from the highest digits (base 2^32). A digit of a quotient: the walk of num.digit.
-/
import Derived.RowKit
import Derived.Test.YtdginjpppgfdaaaPx
import Derived.Lib.Hide
import Derived.Outline
import Derived.Deep.DeepCutAuto
import Derived.Deep.CutBlock
namespace Go.Proofs.Ytdginjpppgfdaaa.Ml

/-- The value of digits at a base, the lowest digit first. -/
def dv (B : Int) : List Int → Int
  | [] => 0
  | x :: l => x + B * dv B l
/-- The base's powers. -/
def pw (B : Int) : Nat → Int
  | 0 => 1
  | n + 1 => pw B n * B
theorem pw_zero (B : Int) : pw B 0 = 1 := rfl
theorem pw_succ (B : Int) (n : Nat) : pw B (n + 1) = pw B n * B := rfl
theorem pw_add (B : Int) (m n : Nat) : pw B (m + n) = pw B m * pw B n := by
  induction n with
  | zero => simp [pw]
  | succ n ih => rw [← Nat.add_assoc, pw_succ, ih, pw_succ, Int.mul_assoc]
/-- Digits of a base. -/
def Dg (B : Int) (l : List Int) : Prop := ∀ x ∈ l, 0 ≤ x ∧ x < B
/-- No zero at the end. -/
def Top (l : List Int) : Prop := ∀ h : l ≠ [], l.getLast h ≠ 0
structure Cn (B : Int) (l : List Int) : Prop where
  dg : Dg B l
  top : Top l

theorem Dg.nil (B : Int) : Dg B [] := by simp [Dg]
theorem Dg.cons {B x : Int} {l : List Int} (h0 : 0 ≤ x) (h1 : x < B) (h : Dg B l) : Dg B (x :: l) := by
  intro y hy
  rcases List.mem_cons.1 hy with rfl | hy
  · exact ⟨h0, h1⟩
  · exact h y hy
theorem Dg.tail {B x : Int} {l : List Int} (h : Dg B (x :: l)) : Dg B l := fun y hy => h y (List.mem_cons_of_mem _ hy)
theorem Dg.head {B x : Int} {l : List Int} (h : Dg B (x :: l)) : 0 ≤ x ∧ x < B := h x List.mem_cons_self
theorem Dg.append {B : Int} {a b : List Int} (ha : Dg B a) (hb : Dg B b) : Dg B (a ++ b) := fun y hy => by
  rcases List.mem_append.1 hy with h | h
  · exact ha y h
  · exact hb y h
theorem Dg.left {B : Int} {a b : List Int} (h : Dg B (a ++ b)) : Dg B a := fun y hy => h y (List.mem_append_left _ hy)
theorem Dg.right {B : Int} {a b : List Int} (h : Dg B (a ++ b)) : Dg B b := fun y hy => h y (List.mem_append_right _ hy)
theorem Dg.take {B : Int} {a : List Int} (h : Dg B a) (n : Nat) : Dg B (a.take n) := fun y hy => h y (List.mem_of_mem_take hy)
theorem Dg.drop {B : Int} {a : List Int} (h : Dg B a) (n : Nat) : Dg B (a.drop n) := fun y hy => h y (List.mem_of_mem_drop hy)
theorem Dg.set {B : Int} {a : List Int} (h : Dg B a) (i : Nat) {v : Int} (h0 : 0 ≤ v) (h1 : v < B) : Dg B (a.set i v) := fun y hy => by
  rcases List.mem_or_eq_of_mem_set hy with h' | rfl
  · exact h y h'
  · exact ⟨h0, h1⟩
theorem Dg.getD {B : Int} {a : List Int} (h : Dg B a) (hB : 0 < B) (i : Nat) : 0 ≤ a.getD i 0 ∧ a.getD i 0 < B := by
  rw [List.getD_eq_getElem?_getD]
  by_cases hi : i < a.length
  · rw [List.getElem?_eq_getElem hi]
    exact h _ (List.getElem_mem hi)
  · rw [List.getElem?_eq_none (by omega)]
    exact ⟨Int.le_refl 0, hB⟩
theorem Dg.replicate {B : Int} (hB : 0 < B) (n : Nat) : Dg B (List.replicate n 0) := fun y hy => by
  obtain ⟨_, rfl⟩ := List.mem_replicate.1 hy
  exact ⟨Int.le_refl 0, hB⟩

theorem dv_append (B : Int) (a b : List Int) : dv B (a ++ b) = dv B a + pw B a.length * dv B b := by
  induction a with
  | nil => simp [dv, pw]
  | cons x a ih =>
    simp only [List.cons_append, dv, List.length_cons, ih, pw_succ]
    grind
theorem dv_nonneg {B : Int} (hB : 0 < B) {l : List Int} (h : Dg B l) : 0 ≤ dv B l := by
  induction l with
  | nil => simp [dv]
  | cons x l ih =>
    have := h.head
    have := Int.mul_nonneg (Int.le_of_lt hB) (ih h.tail)
    simp only [dv]
    omega
theorem pow_pos {B : Int} (hB : 0 < B) (n : Nat) : 0 < pw B n := by
  induction n with
  | zero => exact Int.one_pos
  | succ n ih => exact Int.mul_pos ih hB
theorem dv_lt {B : Int} (hB : 0 < B) {l : List Int} (h : Dg B l) : dv B l < pw B l.length := by
  induction l with
  | nil => simp [dv, pw]
  | cons x l ih =>
    have h1 := h.head
    have h2 := ih h.tail
    have h3 : B * (dv B l + 1) ≤ B * pw B l.length := Int.mul_le_mul_of_nonneg_left (by omega) (Int.le_of_lt hB)
    simp only [dv, List.length_cons, pw_succ]
    rw [Int.mul_add, Int.mul_comm B (pw B l.length)] at h3
    omega
theorem dv_replicate (B : Int) (n : Nat) : dv B (List.replicate n 0) = 0 := by
  induction n with
  | zero => rfl
  | succ n ih => simp [List.replicate_succ, dv, ih]
theorem dv_set (B : Int) (l : List Int) (i : Nat) (v : Int) (hi : i < l.length) : dv B (l.set i v) = dv B l + (v - l.getD i 0) * pw B i := by
  induction l generalizing i with
  | nil => simp at hi
  | cons x l ih =>
    cases i with
    | zero => simp [dv, pw]; omega
    | succ i =>
      have := ih i (by simpa using hi)
      simp only [List.set_cons_succ, dv, this, List.getD_cons_succ, pw_succ]
      grind
theorem dv_take_succ (B : Int) (l : List Int) (i : Nat) (hi : i < l.length) : dv B (l.take (i + 1)) = dv B (l.take i) + l.getD i 0 * pw B i := by
  rw [List.take_succ_eq_append_getElem hi, dv_append, List.length_take, Nat.min_eq_left (by omega)]
  simp only [dv, List.getD_eq_getElem?_getD, List.getElem?_eq_getElem hi, Option.getD_some]
  grind
theorem dv_split (B : Int) (l : List Int) (i : Nat) (hi : i ≤ l.length) : dv B l = dv B (l.take i) + pw B i * dv B (l.drop i) := by
  have := dv_append B (l.take i) (l.drop i)
  rw [List.take_append_drop, List.length_take, Nat.min_eq_left hi] at this
  exact this
theorem dv_drop (B : Int) (l : List Int) (i : Nat) (hi : i < l.length) : dv B (l.drop i) = l.getD i 0 + B * dv B (l.drop (i + 1)) := by
  rw [List.drop_eq_getElem_cons hi]
  simp only [dv, List.getD_eq_getElem?_getD, List.getElem?_eq_getElem hi, Option.getD_some]
theorem dv_snoc (B : Int) (l : List Int) (x : Int) : dv B (l ++ [x]) = dv B l + x * pw B l.length := by
  rw [dv_append]
  simp only [dv]
  grind
/-- Digits with a top digit above 0 are no less than the power below them. -/
theorem dv_ge {B : Int} (hB : 0 < B) {l : List Int} (h : Cn B l) (hne : l ≠ []) : pw B (l.length - 1) ≤ dv B l := by
  have h1 := List.dropLast_concat_getLast hne
  have h2 : Dg B l.dropLast := fun y hy => h.dg y (List.dropLast_subset l hy)
  have h3 := h.dg _ (List.getLast_mem hne)
  have h4 := h.top hne
  have h5 := dv_nonneg hB h2
  have h6 : 0 < pw B l.dropLast.length := pow_pos hB _
  have h7 : 1 * pw B l.dropLast.length ≤ l.getLast hne * pw B l.dropLast.length := Int.mul_le_mul_of_nonneg_right (by omega) (Int.le_of_lt h6)
  rw [← h1, dv_snoc]
  have h8 : (l.dropLast ++ [l.getLast hne]).length - 1 = l.dropLast.length := by simp
  rw [h8]
  omega
theorem dv_pos {B : Int} (hB : 0 < B) {l : List Int} (h : Cn B l) (hne : l ≠ []) : 0 < dv B l :=
  Int.lt_of_lt_of_le (pow_pos hB _) (dv_ge hB h hne)
theorem dv_eq_zero {B : Int} (hB : 0 < B) {l : List Int} (h : Cn B l) : dv B l = 0 ↔ l = [] := by
  constructor
  · intro h0
    cases l with
    | nil => rfl
    | cons x l =>
      have := dv_pos hB h (by simp)
      omega
  · rintro rfl
    rfl
theorem pow_le {B : Int} (hB : 1 ≤ B) {m n : Nat} (h : m ≤ n) : pw B m ≤ pw B n := by
  obtain ⟨d, rfl⟩ : ∃ d, n = m + d := ⟨n - m, by omega⟩
  clear h
  induction d with
  | zero => exact Int.le_refl _
  | succ d ih =>
    have h1 : pw B (m + d) * 1 ≤ pw B (m + d) * B := Int.mul_le_mul_of_nonneg_left hB (Int.le_of_lt (pow_pos (by omega) _))
    rw [← Nat.add_assoc, pw_succ]
    omega
/-- A longer number is a greater one. -/
theorem dv_len {B : Int} (hB : 0 < B) {a b : List Int} (ha : Dg B a) (hb : Cn B b) (hl : a.length < b.length) : dv B a < dv B b := by
  have hne : b ≠ [] := by
    rintro rfl
    simp at hl
  have h1 := dv_lt hB ha
  have h2 := dv_ge hB hb hne
  have h3 : pw B a.length ≤ pw B (b.length - 1) := pow_le hB (by omega)
  omega
/-- The highest digits are the same, the next one is less. -/
theorem dv_less {B : Int} (hB : 0 < B) {a b : List Int} (ha : Dg B a) (hb : Dg B b) (hl : a.length = b.length) (i : Nat) (hi : i < a.length) (hs : dv B (a.drop (i + 1)) = dv B (b.drop (i + 1))) (hlt : a.getD i 0 < b.getD i 0) : dv B a < dv B b := by
  have h1 := dv_split B a (i + 1) (by omega)
  have h2 := dv_split B b (i + 1) (by omega)
  have h3 := dv_take_succ B a i hi
  have h4 := dv_take_succ B b i (by omega)
  have h5 := dv_lt hB (ha.take i)
  have h6 := dv_nonneg hB (hb.take i)
  rw [List.length_take, Nat.min_eq_left (by omega)] at h5
  have h7 : (a.getD i 0 + 1) * pw B i ≤ b.getD i 0 * pw B i := Int.mul_le_mul_of_nonneg_right (by omega) (Int.le_of_lt (pow_pos hB i))
  rw [Int.add_mul] at h7
  rw [h1, h2, h3, h4, hs]
  omega
theorem getD_ge {l : List Int} {i : Nat} (h : l.length ≤ i) : l.getD i 0 = 0 := by
  rw [List.getD_eq_getElem?_getD, List.getElem?_eq_none h]
  rfl
theorem dv_take_succ' (B : Int) (l : List Int) (i : Nat) : dv B (l.take (i + 1)) = dv B (l.take i) + l.getD i 0 * pw B i := by
  by_cases hi : i < l.length
  · exact dv_take_succ B l i hi
  · rw [List.take_of_length_le (by omega), List.take_of_length_le (by omega), getD_ge (by omega)]
    omega
theorem getD_set {l : List Int} {i j : Nat} {v : Int} (h : i ≠ j) : (l.set i v).getD j 0 = l.getD j 0 := by
  simp [List.getD_eq_getElem?_getD, List.getElem?_set_ne h]
theorem getD_set_self {l : List Int} {i : Nat} {v : Int} (h : i < l.length) : (l.set i v).getD i 0 = v := by
  simp [List.getD_eq_getElem?_getD, List.getElem?_set_self h]
theorem mul_lt_sq {B x y : Int} (h0 : 0 ≤ x) (h1 : x < B) (h2 : 0 ≤ y) (h3 : y < B) : 0 ≤ x * y ∧ x * y ≤ (B - 1) * (B - 1) :=
  ⟨Int.mul_nonneg h0 h2, Int.mul_le_mul (by omega) (by omega) h2 (by omega)⟩
theorem dv_nil (B : Int) : dv B [] = 0 := rfl
theorem Cn.nil (B : Int) : Cn B [] := ⟨Dg.nil B, fun h => absurd rfl h⟩
theorem top_of_getD {l : List Int} (h : l.getD (l.length - 1) 0 ≠ 0) : Top l := by
  intro hne
  have hp : 0 < l.length := List.length_pos_iff.2 hne
  rw [List.getLast_eq_getElem]
  rw [List.getD_eq_getElem?_getD, List.getElem?_eq_getElem (by omega)] at h
  exact h
theorem top_getD {l : List Int} (h : Top l) (hne : 0 < l.length) : l.getD (l.length - 1) 0 ≠ 0 := by
  have h1 := h (List.length_pos_iff.1 hne)
  rw [List.getLast_eq_getElem] at h1
  rw [List.getD_eq_getElem?_getD, List.getElem?_eq_getElem (by omega)]
  exact h1
end Go.Proofs.Ytdginjpppgfdaaa.Ml

namespace Go.Proofs.Ytdginjpppgfdaaa.Mn
open Go.Proofs.YtdginjpppgfdaaaW.PrintWords Go.Proofs.Ytdginjpppgfdaaa.Ml Go.Proofs.Ytdginjpppgfdaaa.P
open Go.RowKit (wrap64)
set_option linter.unusedVariables false
set_option linter.unusedSimpArgs false
theorem w64 {x : Int} (h0 : -9223372036854775808 ≤ x) (h1 : x ≤ 9223372036854775807) : wrap64 x = x := by
  unfold wrap64; omega
theorem u64 {x : Int} (h0 : 0 ≤ x) (h1 : x < 18446744073709551616) : IntKind.u64.wrap x = x := by
  show x % 18446744073709551616 = x
  exact Int.emod_eq_of_lt h0 h1
theorem u64m (x : Int) : IntKind.u64.wrap x = x % 18446744073709551616 := rfl
theorem rd_nat (l : List Int) (i : Nat) : rd l (i : Int) = l.getD i 0 := by simp [rd]

theorem trim_l : ∀ (n : Nat) (l : List Int), l.length = n → Dg 4294967296 l → n ≤ 1099511627776 → ∀ k, n < k → ∃ r, num_trim.l0 k l = some r ∧ Cn 4294967296 r ∧ dv 4294967296 r = dv 4294967296 l ∧ r.length ≤ n := by
  intro n
  induction n with
  | zero =>
    intro l hl hd _ k hk
    obtain ⟨k, rfl⟩ : ∃ m, k = m + 1 := ⟨k - 1, by omega⟩
    have e : l = [] := List.eq_nil_of_length_eq_zero hl
    subst e
    exact ⟨[], by simp only [num_trim.l0]; rw [if_neg (by simp)], Cn.nil 4294967296, rfl, by simp⟩
  | succ n ih =>
    intro l hl hd hn k hk
    obtain ⟨k, rfl⟩ : ∃ m, k = m + 1 := ⟨k - 1, by omega⟩
    have e1 : wrap64 ((l.length : Int) - 1) = (n : Int) := by rw [w64 (by omega) (by omega)]; omega
    simp only [num_trim.l0, e1, rd_nat, Int.toNat_natCast]
    rw [if_pos (by omega), if_pos (by omega), if_pos (by omega)]
    by_cases h0 : l.getD n 0 = 0
    · rw [if_pos h0, if_pos (by omega)]
      obtain ⟨r, h1, h2, h3, h4⟩ := ih (l.take n) (by simp; omega) (hd.take n) (by omega) k (by omega)
      have h5 := dv_take_succ 4294967296 l n (by omega)
      rw [List.take_of_length_le (by omega), h0] at h5
      exact ⟨r, h1, h2, by rw [h3, h5]; omega, by omega⟩
    · rw [if_neg h0]
      exact ⟨l, rfl, ⟨hd, top_of_getD (by rw [hl]; exact h0)⟩, rfl, by omega⟩
theorem trim_f (l : List Int) (hd : Dg 4294967296 l) (hn : l.length ≤ 1099511627776) (k : Nat) (hk : l.length < k) : ∃ r, num_trim.f k l = some r ∧ Cn 4294967296 r ∧ dv 4294967296 r = dv 4294967296 l ∧ r.length ≤ l.length :=
  trim_l l.length l rfl hd hn k hk

theorem magOf_f (v : Int) (h0 : 0 ≤ v) (h1 : v < 18446744073709551616) : ∃ r, num_magOf.f 3 v = some r ∧ Cn 4294967296 r ∧ dv 4294967296 r = v ∧ r.length ≤ 2 := by
  have hd : Dg 4294967296 [v % 4294967296, (v / 4294967296) % 4294967296] := by
    refine Dg.cons ?_ ?_ (Dg.cons ?_ ?_ (Dg.nil 4294967296)) <;> omega
  obtain ⟨r, h2, h3, h4, h5⟩ := trim_f _ hd (by simp) 3 (by simp)
  refine ⟨r, ?_, h3, ?_, by simpa using h5⟩
  · unfold num_magOf.f
    rw [h2]
    rfl
  · rw [h4]
    simp only [dv]
    omega

/-- Comparison: the sign of what the function answers is the difference's. -/
def Sg (c a b : Int) : Prop := (c < 0 ↔ a < b) ∧ (c = 0 ↔ a = b) ∧ (0 < c ↔ b < a)
theorem cmp_l (a b : List Int) (ha : Dg 4294967296 a) (hb : Dg 4294967296 b) (hl : a.length = b.length) (hn : a.length ≤ 1099511627776) : ∀ (i : Nat), i ≤ a.length → dv 4294967296 (a.drop i) = dv 4294967296 (b.drop i) → ∀ k, i < k →
    ∃ c, num_cmpMag.l0 k a b ((i : Int) - 1) = some c ∧ Sg c (dv 4294967296 a) (dv 4294967296 b) ∧ -1 ≤ c ∧ c ≤ 1 := by
  intro i
  induction i with
  | zero =>
    intro _ hs k hk
    obtain ⟨k, rfl⟩ : ∃ m, k = m + 1 := ⟨k - 1, by omega⟩
    refine ⟨0, ?_, ?_, by omega, by omega⟩
    · simp only [num_cmpMag.l0]
      rw [if_neg (by omega)]
    · simp only [List.drop_zero] at hs
      unfold Sg
      omega
  | succ i ih =>
    intro hi hs k hk
    obtain ⟨k, rfl⟩ : ∃ m, k = m + 1 := ⟨k - 1, by omega⟩
    have e1 : (((i + 1 : Nat) : Int) - 1) = (i : Int) := by omega
    have e2 : wrap64 ((i : Int) - 1) = (i : Int) - 1 := w64 (by omega) (by omega)
    rw [e1]
    simp only [num_cmpMag.l0, rd_nat, e2]
    rw [if_pos (by omega), if_pos (by omega), if_pos (by omega), if_pos (by omega)]
    have e3 := dv_drop 4294967296 a i (by omega)
    have e4 := dv_drop 4294967296 b i (by omega)
    by_cases h0 : a.getD i 0 = b.getD i 0
    · rw [if_pos h0]
      exact ih (by omega) (by rw [e3, e4, hs, h0]) k (by omega)
    · rw [if_neg h0]
      by_cases h1 : a.getD i 0 < b.getD i 0
      · rw [if_pos h1]
        have := dv_less (by decide) ha hb hl i (by omega) hs h1
        exact ⟨-1, rfl, by unfold Sg; omega, by omega, by omega⟩
      · rw [if_neg h1]
        have := dv_less (by decide) hb ha hl.symm i (by omega) hs.symm (by omega)
        exact ⟨1, rfl, by unfold Sg; omega, by omega, by omega⟩
theorem cmp_f (a b : List Int) (ha : Cn 4294967296 a) (hb : Cn 4294967296 b) (hn : a.length ≤ 1099511627776) (hm : b.length ≤ 1099511627776) (k : Nat) (hk : a.length < k) :
    ∃ c, num_cmpMag.f k a b = some c ∧ Sg c (dv 4294967296 a) (dv 4294967296 b) ∧ -1099511627776 ≤ c ∧ c ≤ 1099511627776 := by
  unfold num_cmpMag.f
  by_cases hl : (a.length : Int) = b.length
  · rw [if_pos hl, w64 (by omega) (by omega)]
    obtain ⟨c, h1, h2, h3, h4⟩ := cmp_l a b ha.dg hb.dg (by omega) hn a.length (Nat.le_refl _) (by rw [List.drop_of_length_le (Nat.le_refl _), List.drop_of_length_le (by omega)]) k hk
    exact ⟨c, h1, h2, by omega, by omega⟩
  · rw [if_neg hl, w64 (by omega) (by omega)]
    refine ⟨_, rfl, ?_, by omega, by omega⟩
    rcases Nat.lt_or_ge a.length b.length with h | h
    · have := dv_len (by decide) ha.dg hb h
      unfold Sg
      omega
    · have := dv_len (by decide) hb.dg ha (by omega)
      unfold Sg
      omega

/-! ### multiplication -/
theorem mul_step {o0 c x y D P r q o B : Int} (h : r + B * q = c + (x * y + o)) : o0 + c * P + x * (y + B * D) * P = o0 + (r - o) * P + q * (P * B) + x * D * (P * B) := by
  have h1 : (r + B * q) * P = (c + (x * y + o)) * P := by rw [h]
  grind
theorem mul_num {c x y o : Int} (hc0 : 0 ≤ c) (hc1 : c < 4294967296) (hx0 : 0 ≤ x) (hx1 : x < 4294967296) (hy0 : 0 ≤ y) (hy1 : y < 4294967296) (ho0 : 0 ≤ o) (ho1 : o < 4294967296) :
    ∃ r q, IntKind.u64.wrap (c + IntKind.u64.wrap (IntKind.u64.wrap (IntKind.u64.wrap x * IntKind.u64.wrap y) + IntKind.u64.wrap o)) % 4294967296 = r ∧
      IntKind.u64.wrap (c + IntKind.u64.wrap (IntKind.u64.wrap (IntKind.u64.wrap x * IntKind.u64.wrap y) + IntKind.u64.wrap o)) / 4294967296 = q ∧ 0 ≤ r ∧ r < 4294967296 ∧ 0 ≤ q ∧ q < 4294967296 ∧ r + 4294967296 * q = c + (x * y + o) := by
  have hxy := mul_lt_sq hx0 hx1 hy0 hy1
  rw [u64 (x := x) (by omega) (by omega), u64 (x := y) (by omega) (by omega), u64 (x := o) (by omega) (by omega)]
  generalize x * y = xy at *
  rw [u64 (x := xy) (by omega) (by omega), u64 (x := xy + o) (by omega) (by omega), u64 (x := c + (xy + o)) (by omega) (by omega)]
  exact ⟨_, _, rfl, rfl, by omega, by omega, by omega, by omega, by omega⟩
theorem sub_num {x y c : Int} (hc0 : 0 ≤ c) (hc1 : c ≤ 1) (hx0 : 0 ≤ x) (hx1 : x < 4294967296) (hy0 : 0 ≤ y) (hy1 : y < 4294967296) :
    ∃ r q, IntKind.u64.wrap (IntKind.u64.wrap (IntKind.u64.wrap x - IntKind.u64.wrap y) - c) % 4294967296 = r ∧ IntKind.u64.wrap (IntKind.u64.wrap (IntKind.u64.wrap x - IntKind.u64.wrap y) - c) / 9223372036854775808 = q ∧
      0 ≤ r ∧ r < 4294967296 ∧ 0 ≤ q ∧ q ≤ 1 ∧ r = x - y - c + 4294967296 * q := by
  rw [u64 (x := x) (by omega) (by omega), u64 (x := y) (by omega) (by omega), u64m, u64m]
  exact ⟨_, _, rfl, rfl, by omega, by omega, by omega, by omega, by omega⟩
theorem wadd {i j : Nat} (h : i + j ≤ 2199023255552) : wrap64 ((i : Int) + (j : Int)) = ((i + j : Nat) : Int) := by rw [w64 (by omega) (by omega)]; omega
theorem wsucc {i : Nat} (h : i ≤ 2199023255552) : wrap64 ((i : Int) + 1) = ((i + 1 : Nat) : Int) := by rw [w64 (by omega) (by omega)]; omega
theorem mul_l1 (a b : List Int) (i : Nat) (x : Int) (hb : Dg 4294967296 b) (hx0 : 0 ≤ x) (hx1 : x < 4294967296) (hn : i + b.length ≤ 1099511627776) :
    ∀ (d j : Nat) (out : List Int) (c : Int), j + d = b.length → Dg 4294967296 out → 0 ≤ c → c < 4294967296 → i + b.length < out.length → out.getD (i + b.length) 0 = 0 →
    ∃ out', (∀ k, num_mulMag.l1 (k + d + 1) b out i x c a a.length i b b.length j = num_mulMag.l0 k b out' a a.length ((i : Int) + 1)) ∧ out'.length = out.length ∧ Dg 4294967296 out' ∧
      dv 4294967296 out' = dv 4294967296 out + c * pw 4294967296 (i + j) + x * dv 4294967296 (b.drop j) * pw 4294967296 (i + j) ∧ ∀ m, i + 1 + b.length ≤ m → out'.getD m 0 = out.getD m 0 := by
  intro d
  induction d with
  | zero =>
    intro j out c hj ho hc0 hc1 hl hz
    refine ⟨out.set (i + b.length) c, fun k => ?_, by simp, ho.set _ hc0 hc1, ?_, fun m hm => getD_set (by omega)⟩
    · have e1 : wrap64 ((i : Int) + (b.length : Int)) = ((i + b.length : Nat) : Int) := wadd (by omega)
      have e2 : c % 4294967296 = c := Int.emod_eq_of_lt hc0 hc1
      have e3 : wrap64 ((i : Int) + 1) = (i : Int) + 1 := w64 (by omega) (by omega)
      simp only [num_mulMag.l1, e1, e2, e3, Int.toNat_natCast]
      rw [if_neg (by omega), if_pos (by omega), if_pos (by omega)]
    · have e : j = b.length := by omega
      subst e
      rw [dv_set _ _ _ _ hl, hz, List.drop_of_length_le (Nat.le_refl _), dv_nil]
      simp
  | succ d ih =>
    intro j out c hj ho hc0 hc1 hl hz
    have hy := hb.getD (by decide) j
    have ho' := ho.getD (by decide) (i + j)
    generalize hyv : b.getD j 0 = y at hy
    generalize hov : out.getD (i + j) 0 = o at ho'
    obtain ⟨r, q, hr, hq, hr0, hr1, hq0, hq1, hs⟩ := mul_num hc0 hc1 hx0 hx1 hy.1 hy.2 ho'.1 ho'.2
    obtain ⟨out', h1, h2, h3, h4, h5⟩ := ih (j + 1) (out.set (i + j) r) q (by omega) (ho.set _ hr0 hr1) hq0 hq1 (by simpa using hl) (by rw [getD_set (by omega)]; exact hz)
    refine ⟨out', fun k => ?_, by simpa using h2, h3, ?_, fun m hm => by rw [h5 m hm, getD_set (by omega)]⟩
    · have e4 : k + (d + 1) + 1 = (k + d + 1) + 1 := by omega
      rw [e4]
      simp only [num_mulMag.l1, wadd (show i + j ≤ 2199023255552 by omega), wsucc (show j ≤ 2199023255552 by omega), rd_nat, Int.toNat_natCast]
      clear hs hr0 hr1 hq0 hq1
      rw [if_pos (by omega), if_pos (by omega), if_pos (by omega), if_pos (by omega), if_pos (by omega), hyv, hov, hr, hq]
      exact h1 k
    · rw [h4, dv_set _ _ _ _ (by omega), hov, dv_drop 4294967296 b j (by omega), hyv, ← Nat.add_assoc, pw_succ]
      exact (mul_step hs).symm
theorem mul_l0 (a b : List Int) (ha : Dg 4294967296 a) (hb : Dg 4294967296 b) (hn : a.length + b.length ≤ 1099511627776) :
    ∀ (d i : Nat) (out : List Int), i + d = a.length → Dg 4294967296 out → out.length = a.length + b.length → dv 4294967296 out = dv 4294967296 (a.take i) * dv 4294967296 b → (∀ m, i + b.length ≤ m → out.getD m 0 = 0) →
    ∀ k, a.length + b.length < k → ∃ r, num_mulMag.l0 (k + d * (b.length + 2) + 1) b out a a.length i = some r ∧ Cn 4294967296 r ∧ dv 4294967296 r = dv 4294967296 a * dv 4294967296 b ∧ r.length ≤ a.length + b.length := by
  intro d
  induction d with
  | zero =>
    intro i out hi ho hl hv hz k hk
    obtain ⟨r, h1, h2, h3, h4⟩ := trim_f out ho (by omega) k (by omega)
    refine ⟨r, ?_, h2, ?_, by omega⟩
    · simp only [Nat.zero_mul, Nat.add_zero, num_mulMag.l0]
      rw [if_neg (by omega), h1]
      rfl
    · rw [h3, hv, List.take_of_length_le (by omega)]
  | succ d ih =>
    intro i out hi ho hl hv hz k hk
    have hx := ha.getD (by decide) i
    obtain ⟨out', h1, h2, h3, h4, h5⟩ := mul_l1 a b i (a.getD i 0) hb hx.1 hx.2 (by omega) b.length 0 out 0 (by omega) ho (by omega) (by omega) (by omega) (hz _ (Nat.le_refl _))
    obtain ⟨r, h6, h7, h8, h9⟩ := ih (i + 1) out' (by omega) h3 (by omega) (by
      rw [h4, hv, dv_take_succ' _ a i]
      simp only [List.drop_zero, Nat.add_zero]
      grind) (fun m hm => by rw [h5 m (by omega)]; exact hz m (by omega)) k hk
    refine ⟨r, ?_, h7, h8, h9⟩
    have e1 : k + (d + 1) * (b.length + 2) + 1 = (k + d * (b.length + 2) + 1 + b.length + 1) + 1 := by
      rw [Nat.add_mul]
      omega
    rw [e1]
    simp only [num_mulMag.l0, rd_nat]
    rw [if_pos (by omega), if_pos (by omega), if_pos (by omega)]
    exact (h1 _).trans h6
theorem mul_f (a b : List Int) (ha : Dg 4294967296 a) (hb : Dg 4294967296 b) (hn : a.length + b.length ≤ 1099511627776) :
    ∃ k r, num_mulMag.f k a b = some r ∧ Cn 4294967296 r ∧ dv 4294967296 r = dv 4294967296 a * dv 4294967296 b ∧ r.length ≤ a.length + b.length := by
  have e1 : wrap64 ((a.length : Int) + (b.length : Int)) = ((a.length + b.length : Nat) : Int) := by rw [w64 (by omega) (by omega)]; omega
  obtain ⟨r, h⟩ := mul_l0 a b ha hb hn a.length 0 (List.replicate (a.length + b.length) 0) (by omega) (Dg.replicate (by decide) _) (by simp) (by rw [dv_replicate]; simp [dv]) (fun m _ => by
    rw [List.getD_eq_getElem?_getD, List.getElem?_replicate]
    split <;> rfl) (a.length + b.length + 1) (by omega)
  refine ⟨a.length + b.length + 1 + a.length * (b.length + 2) + 1, r, ?_, h.2⟩
  unfold num_mulMag.f
  rw [e1, Int.toNat_natCast, if_pos (by omega), if_pos (by omega)]
  exact h.1

/-! ### subtraction -/
theorem sub_l (a b : List Int) (ha : Dg 4294967296 a) (hb : Dg 4294967296 b) (hn : a.length ≤ 1099511627776) (hlb : b.length ≤ a.length) (hle : dv 4294967296 b ≤ dv 4294967296 a) :
    ∀ (d i : Nat) (out : List Int) (c : Int), i + d = a.length → Dg 4294967296 out → out.length = a.length → 0 ≤ c → c ≤ 1 → dv 4294967296 out = dv 4294967296 (a.take i) - dv 4294967296 (b.take i) + c * pw 4294967296 i → (∀ m, i ≤ m → out.getD m 0 = 0) →
    ∀ k, a.length < k → ∃ r, num_subMag.l0 (k + d + 1) b out c a a.length i = some r ∧ Cn 4294967296 r ∧ dv 4294967296 r = dv 4294967296 a - dv 4294967296 b ∧ r.length ≤ a.length := by
  intro d
  induction d with
  | zero =>
    intro i out c hi ho hl hc0 hc1 hv hz k hk
    obtain ⟨r, h1, h2, h3, h4⟩ := trim_f out ho (by omega) k (by omega)
    refine ⟨r, ?_, h2, ?_, by omega⟩
    · simp only [Nat.add_zero, num_subMag.l0]
      rw [if_neg (by omega), h1]
      rfl
    · rw [List.take_of_length_le (by omega), List.take_of_length_le (by omega)] at hv
      have h5 := dv_lt (by decide) ho
      have e : i = out.length := by omega
      rw [← e] at h5
      have h6 : c = 0 := by
        rcases (show c = 0 ∨ c = 1 by omega) with h | h
        · exact h
        · rw [h] at hv
          omega
      rw [h3, hv, h6]
      omega
  | succ d ih =>
    intro i out c hi ho hl hc0 hc1 hv hz k hk
    have hx := ha.getD (by decide) i
    have hy := hb.getD (by decide) i
    have ea := dv_take_succ' 4294967296 a i
    have eb := dv_take_succ' 4294967296 b i
    generalize hxv : a.getD i 0 = x at hx ea
    generalize hyv : b.getD i 0 = y at hy eb
    obtain ⟨r, q, hr, hq, hr0, hr1, hq0, hq1, hs⟩ := sub_num hc0 hc1 hx.1 hx.2 hy.1 hy.2
    have key : num_subMag.l0 (k + (d + 1) + 1) b out c a a.length i = num_subMag.l0 (k + d + 1) b (out.set i r) q a a.length ((i + 1 : Nat) : Int) := by
      have e0 : k + (d + 1) + 1 = (k + d + 1) + 1 := by omega
      rw [e0]
      simp only [num_subMag.l0, rd_nat, wsucc (show i ≤ 2199023255552 by omega), Int.toNat_natCast]
      clear hs ih hv ea eb hle hr0 hr1 hq0 hq1
      rw [if_pos (by omega), if_pos (by omega), if_pos (by omega), hxv, hyv]
      by_cases hib : (i : Int) < (b.length : Int)
      · rw [if_pos hib, if_pos (by omega), hr, hq]
      · have hy0 : y = 0 := by rw [← hyv]; exact getD_ge (by omega)
        rw [hy0, u64 (x := 0) (by omega) (by omega)] at hr hq
        rw [if_neg hib, if_pos (by omega), hr, hq]
    rw [key]
    refine ih (i + 1) _ _ (by omega) (ho.set _ hr0 hr1) (by simpa using hl) hq0 hq1 ?_ (fun m hm => by rw [getD_set (by omega)]; exact hz m (by omega)) k hk
    rw [dv_set _ _ _ _ (by omega), hz i (Nat.le_refl _), hv, ea, eb, pw_succ, hs]
    grind
theorem sub_f (a b : List Int) (ha : Cn 4294967296 a) (hb : Cn 4294967296 b) (hn : a.length ≤ 1099511627776) (hle : dv 4294967296 b ≤ dv 4294967296 a) :
    ∃ k r, num_subMag.f k a b = some r ∧ Cn 4294967296 r ∧ dv 4294967296 r = dv 4294967296 a - dv 4294967296 b ∧ r.length ≤ a.length := by
  have hlb : b.length ≤ a.length := by
    rcases Nat.lt_or_ge a.length b.length with h | h
    · have := dv_len (by decide) ha.dg hb h
      omega
    · exact h
  obtain ⟨r, h⟩ := sub_l a b ha.dg hb.dg hn hlb hle a.length 0 (List.replicate a.length 0) 0 (by omega) (Dg.replicate (by decide) _) (by simp) (by omega) (by omega) (by rw [dv_replicate]; simp [dv]) (fun m _ => by
    rw [List.getD_eq_getElem?_getD, List.getElem?_replicate]
    split <;> rfl) (a.length + 1) (by omega)
  refine ⟨a.length + 1 + a.length + 1, r, ?_, h.2⟩
  unfold num_subMag.f
  rw [if_pos (by omega), if_pos (by omega), Int.toNat_natCast]
  exact h.1
end Go.Proofs.Ytdginjpppgfdaaa.Mn

namespace Go.Proofs.Ytdginjpppgfdaaa.Nd
open Go.RowKit Go Go.Proofs.YtdginjpppgfdaaaW.PrintWords Go.Proofs.YtdginjpppgfdaaaW.PrintLast Go.Proofs.YtdginjpppgfdaaaW.PrintMore Go.Proofs.Ytdginjpppgfdaaa.Ml
set_option linter.unusedVariables false

/-- Limbs, as a slice that can be read. -/
def Mag (w : World) (v : Value) (l : List Int) : Prop := ∃ A c, v = .slice A l.length c ∧ l.length ≤ c ∧ Kd.C (Kd.int .u32) w A l.length l
theorem Mag.of {w : World} {e base : Nat} {ok : Nat → Prop} {v : Value} {l : List Int} (h : Kd.V (Kd.int .u32) e w base ok v l) : Mag w v l := by
  obtain ⟨A, c, rfl, hc, hf⟩ := h
  exact ⟨A, c, rfl, hc, Kd.F_now hf⟩
theorem Mag.ofR {w : World} {e base : Nat} {ok : Nat → Prop} {v : Value} {l : List Int} (h : Kd.R (Kd.int .u32) e w base ok v l) : Mag w v l := Kd.R_reads h
theorem Mag.nil (w : World) : Mag w (.slice none 0 0) [] := ⟨none, 0, rfl, Nat.le_refl _, Kd.C_nil _ _⟩
theorem Mag.slice {w : World} {v : Value} {l : List Int} (h : Mag w v l) : ∃ A c, v = .slice A l.length c ∧ l.length ≤ c ∧ Kd.C (Kd.int .u32) w A l.length l := h
/-- What keeps the cells that hold limbs keeps limbs. -/
theorem Mag.step {w w' : World} {v : Value} {l : List Int} (h : Mag w v l) (hs : ∀ (a : Addr) (x : Int), w.cell? a = some (.int .u32 x) → w'.cell? a = some (.int .u32 x)) : Mag w' v l := by
  obtain ⟨A, c, rfl, hc, h1, h2, h3⟩ := h
  refine ⟨A, c, rfl, hc, h1, h2, fun hp => ?_⟩
  obtain ⟨ad, ha, hcell⟩ := h3 hp
  refine ⟨ad, ha, fun j p hj => ?_⟩
  obtain ⟨cs, hl, hK, hcc⟩ := hcell j p hj
  have hK' : cs = [.int .u32 p] := hK
  subst hK'
  refine ⟨_, hl, hK, fun i u hu => ?_⟩
  match i, hu with
  | 0, hu =>
    simp at hu
    subst hu
    exact hs _ _ (hcc 0 _ rfl)
theorem lt_of_some {w : World} {k : Nat} {o : Obj} (h : w.heap[k]? = some o) : k < w.heap.size := (Array.getElem?_eq_some_iff.1 h).1
theorem Mag.below {w w' : World} {v : Value} {l : List Int} (h : Mag w v l) (hb : Below w.heap.size w w') : Mag w' v l := h.step (fun a x hc => pw_cell_below hb hc)

theorem below_drew' {w w' : World} (h : Below w.drew.heap.size w.drew w') : Below w.heap.size w w' := ⟨h.os, h.tape, h.output, h.size, h.block⟩
def sg (neg : Bool) (x : Int) : Int := if neg then -x else x
/-- A pair of cells for a number, at a place of a block. -/
structure Slot (w : World) (g o : Nat) (neg : Bool) (v : Value) : Prop where mk ::
  at_ : ∃ cells t, w.heap[g]? = some (.cells cells t (0, 0)) ∧ (∃ A n c, v = .slice A n c) ∧ cells[o]? = some (.bool neg) ∧ cells[o + 1]? = some v
def Room (w : World) (g o : Nat) : Prop := ∃ neg v, Slot w g o neg v
/-- A number lies there. n: its limbs are no more. -/
structure IsN (w : World) (g o : Nat) (z : Int) (n : Nat) : Prop where mk ::
  at_ : ∃ neg v l, Slot w g o neg v ∧ Mag w v l ∧ Cn 4294967296 l ∧ l.length ≤ n ∧ z = sg neg (dv 4294967296 l) ∧ (neg = true → l ≠ [])
theorem IsN.room {w : World} {g o : Nat} {z : Int} {n : Nat} (h : IsN w g o z n) : Room w g o := by
  obtain ⟨neg, v, l, hs, _⟩ := h.at_
  exact ⟨neg, v, hs⟩
theorem IsN.mono {w : World} {g o : Nat} {z : Int} {n m : Nat} (h : IsN w g o z n) (hm : n ≤ m) : IsN w g o z m := by
  obtain ⟨neg, v, l, h1, h2, h3, h4, h5⟩ := h.at_
  exact ⟨neg, v, l, h1, h2, h3, by omega, h5⟩
theorem Slot.lt {w : World} {g o : Nat} {neg : Bool} {v : Value} (h : Slot w g o neg v) : g < w.heap.size := by
  obtain ⟨cells, t, h1, _⟩ := h.at_
  exact lt_of_some h1
theorem Room.lt {w : World} {g o : Nat} (h : Room w g o) : g < w.heap.size := by
  obtain ⟨_, _, h⟩ := h
  exact h.lt
theorem IsN.lt {w : World} {g o : Nat} {z : Int} {n : Nat} (h : IsN w g o z n) : g < w.heap.size := h.room.lt
theorem blk_cells {w : World} {g : Nat} {cells : Array Value} {t : TypeId} (h : w.heap[g]? = some (.cells cells t (0, 0))) (o : Nat) {v : Value} (hv : cells[o]? = some v) : w.cell? ⟨g, o, none⟩ = some v := by
  rw [blk_cell h o]; exact hv
theorem Slot.cell0 {w : World} {g o : Nat} {neg : Bool} {v : Value} (h : Slot w g o neg v) : w.cell? ⟨g, o, none⟩ = some (.bool neg) := by
  obtain ⟨cells, t, h1, _, h2, _⟩ := h.at_
  exact blk_cells h1 o h2
theorem Slot.cell1 {w : World} {g o : Nat} {neg : Bool} {v : Value} (h : Slot w g o neg v) : w.cell? ⟨g, o + 1, none⟩ = some v := by
  obtain ⟨cells, t, h1, _, _, h2⟩ := h.at_
  exact blk_cells h1 (o + 1) h2
theorem Slot.free {w : World} {g o : Nat} {neg : Bool} {v : Value} (h : Slot w g o neg v) (j : Nat) : w.frozen? ⟨g, j, none⟩ = false := by
  obtain ⟨cells, t, h1, _⟩ := h.at_
  exact blk_frozen h1 j
theorem Slot.below {w w' : World} {g o : Nat} {neg : Bool} {v : Value} (h : Slot w g o neg v) (hb : Below w.heap.size w w') : Slot w' g o neg v := by
  obtain ⟨cells, t, h1, h2⟩ := h.at_
  exact ⟨cells, t, (hb.block g (lt_of_some h1)).trans h1, h2⟩
theorem Room.below {w w' : World} {g o : Nat} (h : Room w g o) (hb : Below w.heap.size w w') : Room w' g o := by
  obtain ⟨neg, v, h⟩ := h
  exact ⟨neg, v, h.below hb⟩
theorem IsN.below {w w' : World} {g o : Nat} {z : Int} {n : Nat} (h : IsN w g o z n) (hb : Below w.heap.size w w') : IsN w' g o z n := by
  obtain ⟨neg, v, l, h1, h2, h3⟩ := h.at_
  exact ⟨neg, v, l, h1.below hb, h2.below hb, h3⟩

/-- What a call leaves as it was that writes the two cells at ⟨g, o⟩ alone, besides new memory. -/
structure Wrote (w w' : World) (g o : Nat) : Prop where
  os : w'.os = w.os
  tape : w'.tape = w.tape
  output : w'.output = w.output
  size : w.heap.size ≤ w'.heap.size
  other : ∀ k, k < w.heap.size → k ≠ g → w'.heap[k]? = w.heap[k]?
  own : ∀ cells t fr, w.heap[g]? = some (.cells cells t fr) → ∃ cells', w'.heap[g]? = some (.cells cells' t fr) ∧ cells'.size = cells.size ∧ ∀ j, j ≠ o → j ≠ o + 1 → cells'[j]? = cells[j]?
theorem Wrote.of_below {w w' : World} (h : Below w.heap.size w w') (g o : Nat) : Wrote w w' g o :=
  ⟨h.os, h.tape, h.output, h.size, fun k hk _ => h.block k hk, fun cells t fr hc => ⟨cells, (h.block g (lt_of_some hc)).trans hc, rfl, fun _ _ _ => rfl⟩⟩
theorem Wrote.trans {a b c : World} {g o : Nat} (h : Wrote a b g o) (k : Wrote b c g o) : Wrote a c g o :=
  ⟨k.os.trans h.os, k.tape.trans h.tape, k.output.trans h.output, Nat.le_trans h.size k.size, fun i hi hne => (k.other i (Nat.lt_of_lt_of_le hi h.size) hne).trans (h.other i hi hne), fun cells t fr hc => by
    obtain ⟨c1, h1, h2, h3⟩ := h.own cells t fr hc
    obtain ⟨c2, k1, k2, k3⟩ := k.own c1 t fr h1
    exact ⟨c2, k1, k2.trans h2, fun j h4 h5 => (k3 j h4 h5).trans (h3 j h4 h5)⟩⟩
theorem Wrote.below {w w' : World} {g o B : Nat} (h : Wrote w w' g o) (hB : B ≤ g) (hs : B ≤ w.heap.size) : Below B w w' :=
  ⟨h.os, h.tape, h.output, h.size, fun k hk => h.other k (by omega) (by omega)⟩
theorem Wrote.mag {w w' : World} {g o : Nat} (h : Wrote w w' g o) (hr : Room w g o) {v : Value} {l : List Int} (hm : Mag w v l) : Mag w' v l := by
  obtain ⟨_, _, hs⟩ := hr
  obtain ⟨cells, t, h1, ⟨A, n, c, rfl⟩, h3, h4⟩ := hs.at_
  refine hm.step (fun a x hc => ?_)
  by_cases e : a.block = g
  · obtain ⟨c', k1, k2, k3⟩ := h.own _ _ _ h1
    unfold World.cell? at hc ⊢
    rw [e] at hc ⊢
    rw [h1] at hc
    rw [k1]
    simp only at hc ⊢
    by_cases hsp : a.spot.isSome
    · simp [hsp] at hc
    · rw [if_neg hsp] at hc ⊢
      by_cases e1 : a.off = o
      · rw [e1, h3] at hc
        simp at hc
      · by_cases e2 : a.off = o + 1
        · rw [e2, h4] at hc
          simp at hc
        · rw [k3 _ e1 e2]
          exact hc
  · have hlt := World.block_lt_of_cell? w a hc
    rw [World.cell?_of_block (w := w) (h.other a.block hlt e)]
    exact hc
theorem Wrote.slot {w w' : World} {g o : Nat} (h : Wrote w w' g o) {g2 o2 : Nat} {neg : Bool} {v : Value} (hs : Slot w g2 o2 neg v) (hne : g2 ≠ g ∨ (o2 ≠ o ∧ o2 ≠ o + 1 ∧ o2 + 1 ≠ o)) : Slot w' g2 o2 neg v := by
  obtain ⟨cells, t, h1, h2, h3, h4⟩ := hs.at_
  by_cases e : g2 = g
  · subst e
    obtain ⟨c', k1, k2, k3⟩ := h.own _ _ _ h1
    exact ⟨c', t, k1, h2, (k3 o2 (by omega) (by omega)).trans h3, (k3 (o2 + 1) (by omega) (by omega)).trans h4⟩
  · exact ⟨cells, t, (h.other g2 (lt_of_some h1) e).trans h1, h2, h3, h4⟩
theorem Wrote.isN {w w' : World} {g o : Nat} (h : Wrote w w' g o) (hr : Room w g o) {g2 o2 : Nat} {z : Int} {n : Nat} (hs : IsN w g2 o2 z n) (hne : g2 ≠ g ∨ (o2 ≠ o ∧ o2 ≠ o + 1 ∧ o2 + 1 ≠ o)) : IsN w' g2 o2 z n := by
  obtain ⟨neg, v, l, h1, h2, h3⟩ := hs.at_
  exact ⟨neg, v, l, h.slot h1 hne, h.mag hr h2, h3⟩
theorem Wrote.set {w : World} {g o : Nat} {neg : Bool} {v : Value} (hs : Slot w g o neg v) (neg' : Bool) (A : Option Addr) (n c : Nat) (k : Nat) {v' : Value} (hv' : v' = .slice A n c) :
    Wrote w (((w.setCell ⟨g, o, none⟩ (.bool neg')).setCell ⟨g, o + 1, none⟩ v').drewN k) g o ∧ Slot (((w.setCell ⟨g, o, none⟩ (.bool neg')).setCell ⟨g, o + 1, none⟩ v').drewN k) g o neg' v' := by
  obtain ⟨cells, t, h1, h2, h3, h4⟩ := hs.at_
  have e3 := (Array.getElem?_eq_some_iff.1 h3).1
  have e4 := (Array.getElem?_eq_some_iff.1 h4).1
  have hb : (((w.setCell ⟨g, o, none⟩ (.bool neg')).setCell ⟨g, o + 1, none⟩ v').drewN k).heap[g]? = some (.cells ((cells.setIfInBounds o (.bool neg')).setIfInBounds (o + 1) v') t (0, 0)) := by
    refine blk_drewN ?_ k
    refine blk_put ?_ (o + 1) v' rfl
    exact blk_put h1 o _ rfl
  constructor
  · refine ⟨?_, ?_, ?_, ?_, ?_, ?_⟩
    · exact (pw_below_drewN (B := 0) (w := w) (W := (w.setCell ⟨g, o, none⟩ (.bool neg')).setCell ⟨g, o + 1, none⟩ v') (((Below.refl 0 w).setCell (Nat.zero_le _) _).setCell (Nat.zero_le _) _) k).os
    · exact (pw_below_drewN (B := 0) (w := w) (W := (w.setCell ⟨g, o, none⟩ (.bool neg')).setCell ⟨g, o + 1, none⟩ v') (((Below.refl 0 w).setCell (Nat.zero_le _) _).setCell (Nat.zero_le _) _) k).tape
    · exact (pw_below_drewN (B := 0) (w := w) (W := (w.setCell ⟨g, o, none⟩ (.bool neg')).setCell ⟨g, o + 1, none⟩ v') (((Below.refl 0 w).setCell (Nat.zero_le _) _).setCell (Nat.zero_le _) _) k).output
    · exact (pw_below_drewN (B := 0) (w := w) (W := (w.setCell ⟨g, o, none⟩ (.bool neg')).setCell ⟨g, o + 1, none⟩ v') (((Below.refl 0 w).setCell (Nat.zero_le _) _).setCell (Nat.zero_le _) _) k).size
    · intro j hj hne
      show (((w.setCell ⟨g, o, none⟩ (.bool neg')).setCell ⟨g, o + 1, none⟩ v')).heap[j]? = _
      rw [Below.heap_setCell _ _ _ _ hne, Below.heap_setCell _ _ _ _ hne]
    · intro c t' fr hc
      rw [h1] at hc
      injection hc with hc
      injection hc with e1 e2 e5
      subst e1; subst e2; subst e5
      refine ⟨_, hb, by simp, fun j h5 h6 => ?_⟩
      rw [Array.getElem?_setIfInBounds_ne (by omega), Array.getElem?_setIfInBounds_ne (by omega)]
  · refine ⟨_, t, hb, ⟨A, n, c, hv'⟩, ?_, ?_⟩
    · rw [Array.getElem?_setIfInBounds_ne (by omega), Array.getElem?_setIfInBounds_self_of_lt e3]
    · rw [Array.getElem?_setIfInBounds_self_of_lt (by simpa using e4)]

theorem own_cell {k : IntKind} {e base : Nat} {ok : Nat → Prop} {W : World} {g n cap : Nat} {xs : List Int} (h : Kd.R (Kd.int k) e W base ok (.slice (some ⟨g, 0, none⟩) n cap) xs) (i : Nat) (hi : i < n) : W.cell? ⟨g, i, none⟩ = some (.int k (xs.getD i 0)) ∧ W.frozen? ⟨g, i, none⟩ = false := by
  have := Kd.R_celln (0 : Int) h (i : Int) (by omega) (by omega)
  simpa [rdOf] using this
theorem own_put {k : IntKind} {e base : Nat} {ok : Nat → Prop} {W : World} {g n cap : Nat} {xs : List Int} (h : Kd.R (Kd.int k) e W base ok (.slice (some ⟨g, 0, none⟩) n cap) xs) (i : Nat) (x : Int) : Kd.R (Kd.int k) e (W.setCell ⟨g, i, none⟩ (.int k x)) base ok (.slice (some ⟨g, 0, none⟩) n cap) (xs.set i x) := by
  have := (Kd.R_putg h (i : Int) x).1
  rw [Int.toNat_natCast] at this
  exact this
theorem mag_cell {k : IntKind} {W w : World} {A : Option Addr} {n : Nat} {xs : List Int} (h : Kd.C (Kd.int k) w A n xs) (hb : Below w.heap.size w W) (i : Nat) (hi : i < n) : ∃ ad, A = some ad ∧ W.cell? (ad.add i) = some (.int k (xs.getD i 0)) := by
  obtain ⟨ad, e, hc⟩ := Kd.at_int h (i : Int) (by omega) (by omega)
  refine ⟨ad, e, ?_⟩
  have := pw_cell_below hb hc
  simpa [rd] using this
/-- What a call answers that sets a number: the place, and the number there. -/
def SetP (w : World) (g o : Nat) (z : Int) (n : Nat) (e : Ending) (w' : World) : Prop := e = .returned (.pointer (some ⟨g, o, none⟩)) ∧ Wrote w w' g o ∧ IsN w' g o z n
/-- What a call answers that makes a number. -/
def NewP (w : World) (z : Int) (n : Nat) (e : Ending) (w' : World) : Prop := ∃ g, w.heap.size ≤ g ∧ e = .returned (.pointer (some ⟨g, 0, none⟩)) ∧ Below w.heap.size w w' ∧ IsN w' g 0 z n
/-- What a call answers that makes nothing that is looked at. -/
def ValP (w : World) (v : Value) (e : Ending) (w' : World) : Prop := e = .returned v ∧ Below w.heap.size w w'
theorem sg_mul (a b : Bool) (x y : Int) : sg (!a == b) (x * y) = sg a x * sg b y := by cases a <;> cases b <;> simp [sg, Int.neg_mul, Int.mul_neg]
theorem IsN.open {w : World} {g o : Nat} {z : Int} {n : Nat} (h : IsN w g o z n) : ∃ neg A c l, Slot w g o neg (.slice A l.length c) ∧ l.length ≤ c ∧ Kd.C (Kd.int .u32) w A l.length l ∧ Cn 4294967296 l ∧ l.length ≤ n ∧ z = sg neg (dv 4294967296 l) ∧ (neg = true → l ≠ []) := by
  obtain ⟨neg, v, l, h1, ⟨A, c, rfl, h2, h3⟩, h4, h5, h6, h7⟩ := h.at_
  exact ⟨neg, A, c, l, h1, h2, h3, h4, h5, h6, h7⟩
theorem sg_abs {neg : Bool} {x z : Int} (hx : 0 ≤ x) (h : z = sg neg x) : ((z.natAbs : Nat) : Int) = x := by
  cases neg <;> simp [sg] at h <;> omega
/-- How two numbers stand to each other. -/
def cmpI (a b : Int) : Int := if a < b then -1 else if b < a then 1 else 0
theorem ret_i {k : IntKind} {a b : Int} (h : a = b) : Ending.returned (.int k a) = Ending.returned (.int k b) := by rw [h]
theorem ret_b {a b : Bool} (h : a = b) : Ending.returned (.bool a) = Ending.returned (.bool b) := by rw [h]
theorem Drawn0.belowD {w w' : World} (h : Drawn0 w w') : Below w.heap.size w w' := Drawn0.below h
theorem Mag.mk' {w : World} {A : Option Addr} {c : Nat} {l : List Int} (hc : l.length ≤ c) (h : Kd.C (Kd.int .u32) w A l.length l) : Mag w (.slice A l.length c) l := ⟨A, c, rfl, hc, h⟩
/-- A number lies there; a zero may be told as one below zero. -/
structure IsW (w : World) (g o : Nat) (z : Int) (n : Nat) : Prop where mk ::
  at_ : ∃ neg A c l, Slot w g o neg (.slice A l.length c) ∧ l.length ≤ c ∧ Kd.C (Kd.int .u32) w A l.length l ∧ Cn 4294967296 l ∧ l.length ≤ n ∧ z = sg neg (dv 4294967296 l)
theorem IsN.w {w : World} {g o : Nat} {z : Int} {n : Nat} (h : IsN w g o z n) : IsW w g o z n := by
  obtain ⟨neg, A, c, l, h1, h2, h3, h4, h5, h6, _⟩ := h.open
  exact ⟨neg, A, c, l, h1, h2, h3, h4, h5, h6⟩
end Go.Proofs.Ytdginjpppgfdaaa.Nd

namespace Go.Proofs.Ytdginjpppgfdaaa.Nc
open Go.RowKit Go Go.Proofs.YtdginjpppgfdaaaW.PrintWords Go.Proofs.YtdginjpppgfdaaaW.PrintLast Go.Proofs.YtdginjpppgfdaaaW.PrintMore Go.Proofs.Ytdginjpppgfdaaa.Ml Go.Proofs.Ytdginjpppgfdaaa.Mn Go.Proofs.Ytdginjpppgfdaaa.Nd Go.Proofs.Ytdginjpppgfdaaa.P
set_option linter.unusedVariables false
set_option linter.unusedSimpArgs false

set_option maxHeartbeats 1000000 in
theorem set_w (g o : Nat) (A : Option Addr) (n c : Nat) (neg neg0 : Bool) (v0 : Value) (w : World) (hs : Slot w g o neg0 v0) :
    Calls Try.prog 102 #[.pointer (some ⟨g, o, none⟩), .bool neg, .slice A n c] w fun e w' => e = .returned (.pointer (some ⟨g, o, none⟩)) ∧ ∃ k, ((w.setCell ⟨g, o, none⟩ (.bool (neg && decide (0 < n)))).setCell ⟨g, o + 1, none⟩ (.slice A n c)).drewN k = w' := by
  have h0 := hs.cell0
  have h1 := hs.cell1
  have f0 := hs.free o
  have f1 := hs.free (o + 1)
  clear hs
  cases neg
  all_goals
    go_enter Try.func102, Try.ntmps102
    go_wp2
    go_ret
    exact ⟨rfl, 0, rfl⟩
theorem set_n (g o : Nat) (v : Value) (l : List Int) (neg : Bool) (n : Nat) (w : World) (hr : Room w g o) (hm : Mag w v l) (hc : Cn 4294967296 l) (hn : l.length ≤ n) :
    Calls Try.prog 102 #[.pointer (some ⟨g, o, none⟩), .bool neg, v] w (SetP w g o (sg neg (dv 4294967296 l)) n) := by
  obtain ⟨neg0, v0, hs⟩ := hr
  obtain ⟨A, c, rfl, _, _⟩ := hm.slice
  refine (set_w g o A l.length c neg neg0 v0 w hs).mono ?_
  rintro e w' ⟨rfl, k, rfl⟩
  obtain ⟨hw, hs'⟩ := Wrote.set hs (neg && decide (0 < l.length)) A l.length c k rfl
  refine ⟨rfl, hw, _, _, l, hs', hw.mag ⟨_, _, hs⟩ hm, hc, hn, ?_, ?_⟩
  · cases l with
    | nil => cases neg <;> simp [dv, sg]
    | cons x l => cases neg <;> simp
  · cases l with
    | nil => simp
    | cons x l => simp

theorem room_new (w : World) : Room (w.alloc (.cells #[.bool false, .slice none 0 0] 80)) w.heap.size 0 :=
  ⟨false, .slice none 0 0, ⟨#[.bool false, .slice none 0 0], 80, blk_new w _, ⟨none, 0, 0, rfl⟩, rfl, rfl⟩⟩
def bs (n m : Nat) : Array Bool := ((List.range n).map m.testBit).toArray
set_option maxHeartbeats 1000000 in
theorem setInt_n (g o : Nat) (z : Int) (w : World) (hr : Room w g o) (h0 : -9223372036854775808 ≤ z) (h1 : z ≤ 9223372036854775807) :
    Calls Try.prog 97 #[.pointer (some ⟨g, o, none⟩), .int .i64 z] w (SetP w g o z 2) := by
  by_cases hz : z < 0
  · obtain ⟨r, hf, hc, hv, hn⟩ := magOf_f (-z) (by omega) (by omega)
    have e1 : IntKind.u64.wrap (-IntKind.u64.wrap z) = -z := by rw [u64m, u64m]; omega
    have HR := Lib.hid hr
    have HE := Lib.hid e1
    clear hr e1
    go_enter Try.func97, Try.ntmps97
    go_wp2_with fail
    rw [HE.out]
    refine (num_magOf.calls 3 (-z) r w hf).mono ?_
    rintro e w1 ⟨v, rfl, hV, hb⟩
    go_wp2_with fail
    refine (set_n g o v r true 2 w1 (HR.out.below hb) (Mag.of hV) hc hn).mono ?_
    rintro e w2 ⟨rfl, hw, hN⟩
    go_wp2_with fail
    go_ret
    exact ⟨rfl, (Wrote.of_below hb g o).trans hw, by simpa [hv, sg] using hN⟩
  · obtain ⟨r, hf, hc, hv, hn⟩ := magOf_f z (by omega) (by omega)
    have HR := Lib.hid hr
    clear hr
    go_enter Try.func97, Try.ntmps97
    go_wp2_with fail
    refine (num_magOf.calls 3 z r w hf).mono ?_
    rintro e w1 ⟨v, rfl, hV, hb⟩
    go_wp2_with fail
    refine (set_n g o v r false 2 w1 (HR.out.below hb) (Mag.of hV) hc hn).mono ?_
    rintro e w2 ⟨rfl, hw, hN⟩
    go_wp2_with fail
    go_ret
    exact ⟨rfl, (Wrote.of_below hb g o).trans hw, by simpa [hv, sg] using hN⟩
set_option maxHeartbeats 1000000 in
theorem newInt_n (z : Int) (w : World) (h0 : -9223372036854775808 ≤ z) (h1 : z ≤ 9223372036854775807) :
    Calls Try.prog 69 #[.int .i64 z] w (NewP w z 2) := by
  go_enter Try.func69, Try.ntmps69
  go_wp2_with fail
  refine (setInt_n w.heap.size 0 z _ (room_new w) h0 h1).mono ?_
  rintro e w1 ⟨rfl, hw, hN⟩
  go_wp2_with fail
  go_ret
  exact ⟨_, Nat.le_refl _, rfl, (below_alloc (Below.refl _ w) _).trans (hw.below (Nat.le_refl _) (by simp)), hN⟩
set_option maxHeartbeats 2000000 in
set_option maxRecDepth 100000 in
theorem mul_n (gx ox ga oa gb ob : Nat) (a b : Int) (na nb : Nat) (w : World) (hx : Room w gx ox) (ha : IsN w ga oa a na) (hb : IsN w gb ob b nb) (hl : na + nb ≤ 1000) :
    Calls Try.prog 92 #[.pointer (some ⟨gx, ox, none⟩), .pointer (some ⟨ga, oa, none⟩), .pointer (some ⟨gb, ob, none⟩)] w (SetP w gx ox (a * b) (na + nb)) := by
  obtain ⟨nega, va, la, sa, ma, ca, hla, hza, qa⟩ := ha.at_
  obtain ⟨negb, vb, lb, sb, mb, cb, hlb, hzb, qb⟩ := hb.at_
  have hz : sg (!nega == negb) (dv 4294967296 la * dv 4294967296 lb) = a * b := by rw [sg_mul, hza, hzb]
  clear hza hzb
  obtain ⟨Aa, cca, rfl, hca, ra⟩ := ma.slice
  obtain ⟨Ab, ccb, rfl, hcb, rb⟩ := mb.slice
  obtain ⟨k, r, hf, hc, hv, hn⟩ := mul_f la lb ca.dg cb.dg (by omega)
  have a0 := sa.cell0
  have a1 := sa.cell1
  have b0 := sb.cell0
  have b1 := sb.cell1
  rw [← hv] at hz
  have HZ := Lib.hid hz
  clear ha hb hz hv
  go_enter Try.func92, Try.ntmps92
  go_wp2_with fail
  refine start_ (n := 21) (S := fun w' => w'.cell? ⟨ga, oa, none⟩ = some (.bool nega) ∧ w'.cell? ⟨ga, oa + 1, none⟩ = some (.slice Aa la.length cca) ∧ w'.cell? ⟨gb, ob, none⟩ = some (.bool negb) ∧ w'.cell? ⟨gb, ob + 1, none⟩ = some (.slice Ab lb.length ccb)) (ds := [19]) (bs 21 0) (by kernel_rfl) rfl rfl ⟨a0, a1, b0, b1⟩ (fun hHeld => ?_)
  refine pure_ (i := 0) (N := some 7) (v := ?_) (a' := ?_) (bs 21 1) rfl rfl (by kernel_rfl) (fun _ _ _ h => h) (Or.inl ⟨by rfl, ?_⟩) ?_ ?_; rotate_left; (· intro w'; go_simp; first | done | with_reducible rfl); rotate_left; (· simp only [Act.put, List.setIfInBounds_toArray, List.set_cons_zero, List.set_cons_succ, i64_w, i32_w]; rfl)
  refine pure_ (i := 1) (N := some 8) (v := ?_) (a' := ?_) (bs 21 3) rfl rfl (by kernel_rfl) (fun _ _ _ h => h) (Or.inl ⟨by rfl, ?_⟩) ?_ ?_; rotate_left; (· intro w'; go_simp; first | done | with_reducible rfl); rotate_left; (· simp only [Act.put, List.setIfInBounds_toArray, List.set_cons_zero, List.set_cons_succ, i64_w, i32_w]; rfl)
  refine pure_ (i := 2) (N := some 9) (v := ?_) (a' := ?_) (bs 21 7) rfl rfl (by kernel_rfl) (fun _ _ _ h => h) (Or.inl ⟨by rfl, ?_⟩) ?_ ?_; rotate_left; (· intro w'; go_simp; first | done | with_reducible rfl); rotate_left; (· simp only [Act.put, List.setIfInBounds_toArray, List.set_cons_zero, List.set_cons_succ, i64_w, i32_w]; rfl)
  refine pure_ (i := 3) (N := some 10) (v := ?_) (a' := ?_) (bs 21 15) rfl rfl (by kernel_rfl) (fun _ _ _ h => h) (Or.inl ⟨by rfl, ?_⟩) ?_ ?_; rotate_left; (· intro w'; go_simp; first | done | with_reducible rfl); rotate_left; (· simp only [Act.put, List.setIfInBounds_toArray, List.set_cons_zero, List.set_cons_succ, i64_w, i32_w]; rfl)
  refine pure_ (i := 5) (N := some 12) (v := ?_) (a' := ?_) (bs 21 47) rfl rfl (by kernel_rfl) (fun _ _ _ h => h) (Or.inl ⟨by rfl, ?_⟩) ?_ ?_; rotate_left; (· intro w'; go_simp; first | done | with_reducible rfl); rotate_left; (· simp only [Act.put, List.setIfInBounds_toArray, List.set_cons_zero, List.set_cons_succ, i64_w, i32_w]; rfl)
  refine pure_ (i := 6) (N := some 13) (v := ?_) (a' := ?_) (bs 21 111) rfl rfl (by kernel_rfl) (fun _ _ _ h => h) (Or.inl ⟨by rfl, ?_⟩) ?_ ?_; rotate_left; (· intro w'; go_simp; first | done | with_reducible rfl); rotate_left; (· simp only [Act.put, List.setIfInBounds_toArray, List.set_cons_zero, List.set_cons_succ, i64_w, i32_w]; rfl)
  refine pure_ (i := 7) (N := some 14) (v := ?_) (a' := ?_) (bs 21 239) rfl rfl (by kernel_rfl) (fun _ _ _ h => h) (Or.inl ⟨by rfl, ?_⟩) ?_ ?_; rotate_left; (· intro w'; go_simp; first | done | with_reducible rfl); rotate_left; (· simp only [Act.put, List.setIfInBounds_toArray, List.set_cons_zero, List.set_cons_succ, i64_w, i32_w]; rfl)
  refine pure_ (i := 10) (N := some 17) (v := ?_) (a' := ?_) (bs 21 1263) rfl rfl (by kernel_rfl) (fun _ _ _ h => h) (Or.inl ⟨by rfl, ?_⟩) ?_ ?_; rotate_left; (· intro w'; go_simp; first | done | with_reducible rfl); rotate_left; (· simp only [Act.put, List.setIfInBounds_toArray, List.set_cons_zero, List.set_cons_succ, i64_w, i32_w]; rfl)
  refine pure_ (i := 11) (N := some 18) (v := ?_) (a' := ?_) (bs 21 3311) rfl rfl (by kernel_rfl) (fun _ _ _ h => h) (Or.inl ⟨by rfl, ?_⟩) ?_ ?_; rotate_left; (· intro w'; go_simp; first | done | with_reducible rfl); rotate_left; (· simp only [Act.put, List.setIfInBounds_toArray, List.set_cons_zero, List.set_cons_succ, i64_w, i32_w]; rfl)
  refine pure_ (i := 12) (N := some 19) (v := ?_) (a' := ?_) (bs 21 7407) rfl rfl (by kernel_rfl) (fun _ _ _ h => h) (Or.inl ⟨by rfl, ?_⟩) ?_ ?_; rotate_left; (· intro w'; go_simp; first | done | with_reducible rfl); rotate_left; (· simp only [Act.put, List.setIfInBounds_toArray, List.set_cons_zero, List.set_cons_succ, i64_w, i32_w]; rfl)
  refine pure_ (i := 14) (N := some 21) (v := ?_) (a' := ?_) (bs 21 23791) rfl rfl (by kernel_rfl) (fun _ _ _ h => h) (Or.inl ⟨by rfl, ?_⟩) ?_ ?_; rotate_left; (· intro w'; go_simp; first | done | with_reducible rfl); rotate_left; (· simp only [Act.put, List.setIfInBounds_toArray, List.set_cons_zero, List.set_cons_succ, i64_w, i32_w]; rfl)
  refine pure_ (i := 15) (N := some 22) (v := ?_) (a' := ?_) (bs 21 56559) rfl rfl (by kernel_rfl) (fun _ _ _ h => h) (Or.inl ⟨by rfl, ?_⟩) ?_ ?_; rotate_left; (· intro w'; go_simp; first | done | with_reducible rfl); rotate_left; (· simp only [Act.put, List.setIfInBounds_toArray, List.set_cons_zero, List.set_cons_succ, i64_w, i32_w]; rfl)
  refine pure_ (i := 16) (N := some 23) (v := ?_) (a' := ?_) (bs 21 122095) rfl rfl (by kernel_rfl) (fun _ _ _ h => h) (Or.inl ⟨by rfl, ?_⟩) ?_ ?_; rotate_left; (· intro w'; go_simp; first | done | with_reducible rfl); rotate_left; (· simp only [Act.put, List.setIfInBounds_toArray, List.set_cons_zero, List.set_cons_succ, i64_w, i32_w]; rfl)
  refine take_ (i := 4) (N := some 11) (v := ?_) (a' := ?_) (bs 21 122111) rfl rfl (by kernel_rfl) (fun _ _ _ h => h) (Or.inl ⟨by rfl, ?_⟩) hHeld ?_ ?_; rotate_left; (· rintro w' ⟨s0, s1, s2, s3⟩; go_simp; first | done | with_reducible rfl); rotate_left; (· simp only [Act.put, List.setIfInBounds_toArray, List.set_cons_zero, List.set_cons_succ, i64_w, i32_w]; rfl)
  refine take_ (i := 8) (N := some 15) (v := ?_) (a' := ?_) (bs 21 122367) rfl rfl (by kernel_rfl) (fun _ _ _ h => h) (Or.inl ⟨by rfl, ?_⟩) hHeld ?_ ?_; rotate_left; (· rintro w' ⟨s0, s1, s2, s3⟩; go_simp; first | done | with_reducible rfl); rotate_left; (· simp only [Act.put, List.setIfInBounds_toArray, List.set_cons_zero, List.set_cons_succ, i64_w, i32_w]; rfl)
  refine pure_ (i := 9) (N := some 16) (v := ?_) (a' := ?_) (bs 21 122879) rfl rfl (by kernel_rfl) (fun _ _ _ h => h) (Or.inl ⟨by rfl, ?_⟩) ?_ ?_; rotate_left; (· intro w'; go_simp; first | done | with_reducible rfl); rotate_left; (· simp only [Act.put, List.setIfInBounds_toArray, List.set_cons_zero, List.set_cons_succ, i64_w, i32_w]; rfl)
  refine take_ (i := 13) (N := some 20) (v := ?_) (a' := ?_) (bs 21 131071) rfl rfl (by kernel_rfl) (fun _ _ _ h => h) (Or.inl ⟨by rfl, ?_⟩) hHeld ?_ ?_; rotate_left; (· rintro w' ⟨s0, s1, s2, s3⟩; go_simp; first | done | with_reducible rfl); rotate_left; (· simp only [Act.put, List.setIfInBounds_toArray, List.set_cons_zero, List.set_cons_succ, i64_w, i32_w]; rfl)
  refine take_ (i := 17) (N := some 24) (v := ?_) (a' := ?_) (bs 21 262143) rfl rfl (by kernel_rfl) (fun _ _ _ h => h) (Or.inl ⟨by rfl, ?_⟩) hHeld ?_ ?_; rotate_left; (· rintro w' ⟨s0, s1, s2, s3⟩; go_simp; first | done | with_reducible rfl); rotate_left; (· simp only [Act.put, List.setIfInBounds_toArray, List.set_cons_zero, List.set_cons_succ, i64_w, i32_w]; rfl)
  refine one_ (i := 18) (N := some 25) (bs 21 524287) rfl rfl (by kernel_rfl) (by decide) (fun K hK => ?_)
  refine goes_ Try.func117 (by kernel_rfl) rfl #[.slice Aa la.length cca, .slice Ab lb.length ccb] (by rfl) rfl rfl (by simp only [List.map_toArray, List.map_cons, List.map_nil]; rfl) ?_
  with_reducible refine (num_mulMag.calls k Aa cca la Ab ccb lb r _ (Kd.C_drew ra) hca (Kd.C_drew rb) hcb hf).mono ?_
  rintro e w1 ⟨v, rfl, hV, hb⟩
  refine ⟨_, rfl, ?_⟩
  have hb' := below_drew' hb
  refine hK.out _ _ ⟨(sa.below hb').cell0, (sa.below hb').cell1, (sb.below hb').cell0, (sb.below hb').cell1⟩ (fun hHeld => ?_)
  clear hK K
  refine norm_ (a' := ?_) ?_ ?_; rotate_left; (· show Act.put _ (some 25) _ = _; simp only [Act.put, List.setIfInBounds_toArray, List.set_cons_zero, List.set_cons_succ, i64_w, i32_w]; rfl)
  refine last_ (i := 19) (N := some 26) (bs 21 1048575) rfl rfl (by kernel_rfl) (by decide) (fun K hK => ?_)
  refine goes_ Try.func102 (by kernel_rfl) rfl #[.pointer (some ⟨gx, ox, none⟩), .bool (!nega == negb), v] (by rfl) rfl rfl (by simp only [List.map_toArray, List.map_cons, List.map_nil]; rfl) ?_
  with_reducible refine (set_n gx ox v r (!nega == negb) (na + nb) w1 (hx.below hb') (Mag.of hV) hc (by omega)).mono ?_
  rintro e w2 ⟨rfl, hw, hN⟩
  refine ⟨_, rfl, ?_⟩
  refine hK.out _ _ ?_
  clear hK K
  refine norm_ (a' := ?_) ?_ ?_; rotate_left; (· show Act.put _ (some 26) _ = _; simp only [Act.put, List.setIfInBounds_toArray, List.set_cons_zero, List.set_cons_succ, i64_w, i32_w]; rfl)
  refine pure_ (i := 20) (N := some 6) (v := ?_) (a' := ?_) (bs 21 2097151) rfl rfl (by kernel_rfl) (fun _ _ _ h => h) (Or.inl ⟨by rfl, ?_⟩) ?_ ?_; rotate_left; (· intro w'; go_simp; first | done | with_reducible rfl); rotate_left; (· simp only [Act.put, List.setIfInBounds_toArray, List.set_cons_zero, List.set_cons_succ, i64_w, i32_w]; rfl)
  refine done_ (by kernel_rfl) ?_
  go_wp2
  go_ret
  exact ⟨rfl, (Wrote.of_below hb' gx ox).trans hw, HZ.out ▸ hN⟩
theorem trim_n (v : Value) (l : List Int) (base : Nat) (ok : Nat → Prop) (w : World) (h : Kd.R (Kd.int .u32) 122 w base ok v l) (hd : Dg 4294967296 l) (hn : l.length ≤ 1099511627776) :
    Calls Try.prog 119 #[v] w fun e w' => ∃ v r, e = .returned v ∧ Mag w' v r ∧ Cn 4294967296 r ∧ dv 4294967296 r = dv 4294967296 l ∧ r.length ≤ l.length ∧ Below w.heap.size w w' := by
  obtain ⟨A, c, rfl⟩ := Kd.R_slice h
  obtain ⟨r, hf, hc, hv, hl⟩ := trim_f l hd hn (l.length + 1) (by omega)
  refine (num_trim.calls (l.length + 1) ok A c l r w (Kd.R_V h) hf).mono ?_
  rintro e w' ⟨v, rfl, hV, hb⟩
  exact ⟨v, r, rfl, Mag.of hV, hc, hv, hl, hb⟩
end Go.Proofs.Ytdginjpppgfdaaa.Nc

namespace Go.Proofs.Ytdginjpppgfdaaa.Na
open Go.RowKit Go Go.Proofs.YtdginjpppgfdaaaW.PrintWords Go.Proofs.YtdginjpppgfdaaaW.PrintLast Go.Proofs.YtdginjpppgfdaaaW.PrintMore Go.Proofs.Ytdginjpppgfdaaa.Ml Go.Proofs.Ytdginjpppgfdaaa.Mn Go.Proofs.Ytdginjpppgfdaaa.Nd Go.Proofs.Ytdginjpppgfdaaa.P Go.Proofs.Ytdginjpppgfdaaa.Nc
set_option linter.unusedVariables false
set_option linter.unusedSimpArgs false

structure AddI (x y : List Int) (i : Nat) (c : Int) (out : List Int) : Prop where
  c0 : 0 ≤ c
  c1 : c ≤ 1
  dg : Dg 4294967296 out
  len : out.length = x.length + 1
  val : dv 4294967296 out + c * pw 4294967296 i = dv 4294967296 (x.take i) + dv 4294967296 (y.take i)
  zero : ∀ m, i ≤ m → out.getD m 0 = 0
theorem AddI.start (x y : List Int) : AddI x y 0 0 (List.replicate (x.length + 1) 0) :=
  ⟨by omega, by omega, Dg.replicate (by decide) _, by simp, by rw [dv_replicate]; simp [dv], fun m _ => by
    rw [List.getD_eq_getElem?_getD, List.getElem?_replicate]
    split <;> rfl⟩
theorem AddI.step {x y : List Int} {i : Nat} {c : Int} {out : List Int} (h : AddI x y i c out) (hx : Dg 4294967296 x) (hy : Dg 4294967296 y) (hi : i < x.length) :
    AddI x y (i + 1) ((c + x.getD i 0 + y.getD i 0) / 4294967296) (out.set i ((c + x.getD i 0 + y.getD i 0) % 4294967296)) := by
  have h1 := hx.getD (by decide) i
  have h2 := hy.getD (by decide) i
  have h3 := h.c0
  have h4 := h.c1
  obtain ⟨s, hs⟩ : ∃ s, s = c + x.getD i 0 + y.getD i 0 := ⟨_, rfl⟩
  rw [← hs]
  refine ⟨by omega, by omega, h.dg.set _ (by omega) (by omega), by simpa using h.len, ?_, fun m hm => by rw [getD_set (by omega)]; exact h.zero m (by omega)⟩
  have h5 := h.val
  rw [dv_set _ _ _ _ (by have := h.len; omega), h.zero i (Nat.le_refl _), dv_take_succ', dv_take_succ', pw_succ]
  have h6 : s % 4294967296 = s - 4294967296 * (s / 4294967296) := by omega
  rw [h6]
  generalize s / 4294967296 = q
  rw [hs]
  grind
theorem AddI.done {x y : List Int} {c : Int} {out : List Int} (h : AddI x y x.length c out) (hy : y.length ≤ x.length) : Dg 4294967296 (out.set x.length c) ∧ dv 4294967296 (out.set x.length c) = dv 4294967296 x + dv 4294967296 y ∧ (out.set x.length c).length = x.length + 1 := by
  have h1 := h.val
  have h3 := h.c0
  have h4 := h.c1
  rw [List.take_of_length_le (Nat.le_refl _), List.take_of_length_le hy] at h1
  refine ⟨h.dg.set _ (by omega) (by omega), ?_, by simpa using h.len⟩
  rw [dv_set _ _ _ _ (by have := h.len; omega), h.zero _ (Nat.le_refl _)]
  rw [← h1]
  grind

set_option maxHeartbeats 4000000 in
set_option maxRecDepth 100000 in
theorem addMag_n (va vb : Value) (la lb : List Int) (w : World) (ha : Mag w va la) (hb : Mag w vb lb) (da : Dg 4294967296 la) (db : Dg 4294967296 lb) (hn : la.length ≤ 1000000) (hm : lb.length ≤ 1000000) :
    Calls Try.prog 113 #[va, vb] w fun e w' => ∃ v r, e = .returned v ∧ Mag w' v r ∧ Cn 4294967296 r ∧ dv 4294967296 r = dv 4294967296 la + dv 4294967296 lb ∧ r.length ≤ max la.length lb.length + 1 ∧ Below w.heap.size w w' := by
  obtain ⟨A0, c0, rfl, hc0, hr0⟩ := ha.slice
  obtain ⟨A1, c1, rfl, hc1, hr1⟩ := hb.slice
  obtain ⟨Ax, cx, x, Ay, cy, y, hcx, hcy, HX, HY, hnx, hny, dx, dy, hle, hsum, hmax, hxy⟩ : ∃ Ax cx x Ay cy y, x.length ≤ cx ∧ y.length ≤ cy ∧ (Kd.int .u32).C w Ax x.length x ∧ (Kd.int .u32).C w Ay y.length y ∧ x.length ≤ 1000000 ∧ y.length ≤ 1000000 ∧ Dg 4294967296 x ∧ Dg 4294967296 y ∧ y.length ≤ x.length ∧
      dv 4294967296 x + dv 4294967296 y = dv 4294967296 la + dv 4294967296 lb ∧ x.length + 1 ≤ max la.length lb.length + 1 ∧
      ((la.length < lb.length ∧ Ax = A1 ∧ cx = c1 ∧ x = lb ∧ Ay = A0 ∧ cy = c0 ∧ y = la) ∨ (¬ la.length < lb.length ∧ Ax = A0 ∧ cx = c0 ∧ x = la ∧ Ay = A1 ∧ cy = c1 ∧ y = lb)) := by
    rcases Nat.lt_or_ge la.length lb.length with h | h
    · exact ⟨A1, c1, lb, A0, c0, la, hc1, hc0, hr1, hr0, hm, hn, db, da, by omega, by omega, by omega, .inl ⟨h, rfl, rfl, rfl, rfl, rfl, rfl⟩⟩
    · exact ⟨A0, c0, la, A1, c1, lb, hc0, hc1, hr0, hr1, hn, hm, da, db, by omega, by omega, by omega, .inr ⟨by omega, rfl, rfl, rfl, rfl, rfl, rfl⟩⟩
  generalize dv 4294967296 la + dv 4294967296 lb = S at hsum ⊢
  generalize max la.length lb.length + 1 = M at hmax ⊢
  have HS := Aside0.mk (show Dg 4294967296 x ∧ Dg 4294967296 y ∧ dv 4294967296 x + dv 4294967296 y = S from ⟨dx, dy, hsum⟩)
  have HXa := Aside0.mk HX
  have HYa := Aside0.mk HY
  clear hsum dx dy da db ha hb hc0 hc1 hr0 hr1 hn hm HX HY
  have hlen : 0 ≤ (x.length : Int) + 1 := by omega
  rcases hxy with ⟨h, rfl, rfl, rfl, rfl, rfl, rfl⟩ | ⟨h, rfl, rfl, rfl, rfl, rfl, rfl⟩
  all_goals
    go_enter Try.func113, Try.ntmps113
    go_wp2_with ((with_reducible refine gate_dst (N := 19) rfl ?_); refine Kd.R_make (Kd.int .u32) _ 122 rfl (N := 19) rfl 78 _ _ rfl ((x.length : Int) + 1) rfl rfl Try.underlying78 (.int .u32 0) 4 info122 rfl (by decide) (by omega) 0 (ok := fun _ => True) (okp := fun _ => True) rfl (fun _ hk => hk) trivial hlen (by omega) (Below.refl _ _) (Nat.le_refl _) ?_; intro v w5 ho hb hg_ hnew_; clear hg_ hnew_; have HO := Aside0.mk ho; have HB := Aside0.mk hb; clear ho hb)
    obtain ⟨go, co, eo, gb, _, _⟩ := Kd.R_form HO.out (by simp)
    have eo2 : v = .slice (some ⟨go, 0, none⟩) (x.length + 1) co := by rw [eo]; simp
    have HO2 := Aside0.mk (show ∃ out, AddI x y 0 0 out ∧ Kd.R (Kd.int .u32) 122 w5 w.heap.size (fun _ => True) (.slice (some ⟨go, 0, none⟩) (x.length + 1) co) out from ⟨_, AddI.start x y, by have := HO.out; rw [eo2] at this; simpa using this⟩)
    subst eo2
    clear HO eo
    go_loopg [6, 22] x.length (fun kq v6 v22 w' => ∃ (i : Nat) (c : Int) (out : List Int), v6 = .int .u64 c ∧ v22 = .int .i64 (i : Int) ∧ Aside0 (i + kq = x.length) ∧ Aside0 (AddI x y i c out) ∧ Aside0 (Kd.R (Kd.int .u32) 122 w' w.heap.size (fun _ => True) (.slice (some ⟨go, 0, none⟩) (x.length + 1) co) out) ∧ Aside0 (Below w.heap.size w w'))
    case atStart =>
      obtain ⟨out, h1, h2⟩ := HO2.out
      exact ⟨0, 0, out, rfl, rfl, ⟨by omega⟩, ⟨h1⟩, ⟨h2⟩, HB⟩
    case round =>
      clear HO2 HB
      obtain ⟨i, c, out, rfl, rfl, HK, HI, HO, HB⟩ := hrel
      cases gk with
      | zero =>
        have hi : i = x.length := HK.out
        have hb0 : decide (i < x.length) = false := decide_eq_false (by omega)
        obtain ⟨hy1, hz1⟩ := own_cell HO.out x.length (by omega)
        have hc0 := HI.out.c0
        have hc1 := HI.out.c1
        have HI2 := Aside0.mk hi
        clear hi
        have hd := (show AddI x y x.length c out from HI2.out ▸ HI.out).done hle
        have HD := Aside0.mk hd
        clear hd
        go_wp2_with fail
        refine (trim_n _ (out.set x.length c) _ _ _ (own_put HO.out x.length c) HD.out.1 (by rw [HD.out.2.2]; omega)).mono ?_
        rintro e w1 ⟨v, r, rfl, hM, hc, hv, hn, hb2⟩
        have HV := Aside0.mk hv
        have HN := Aside0.mk hn
        clear hv hn
        go_wp2_with fail
        go_ret
        exact ⟨v, r, rfl, hM, hc, by rw [HV.out, HD.out.2.1, HS.out.2.2], by have := HN.out; rw [HD.out.2.2] at this; omega, (HB.out.setCell gb _).trans (hb2.mono (HB.out.setCell gb _).size)⟩
      | succ k1 =>
        have hi : i < x.length := by have := HK.out; omega
        have hb0 : decide (i < x.length) = true := decide_eq_true hi
        obtain ⟨adx, ex, hxc⟩ := mag_cell HXa.out HB.out i hi
        obtain ⟨hy1, hz1⟩ := own_cell HO.out i (by omega)
        have hdx := HS.out.1.getD (by decide) i
        have hdy := HS.out.2.1.getD (by decide) i
        have hc0 := HI.out.c0
        have hc1 := HI.out.c1
        cases ex
        have hst := HI.out.step HS.out.1 HS.out.2.1 hi
        generalize hxi : x.getD i 0 = xi at hxc hdx hst
        generalize hyi : y.getD i 0 = yi at hdy hst
        have HT := Aside0.mk hst
        have HYI := Aside0.mk hyi
        obtain ⟨hdx0, hdx1⟩ := hdx
        obtain ⟨hdy0, hdy1⟩ := hdy
        clear hst hyi hxi
        by_cases hy : i < y.length
        · obtain ⟨ady, ey, hyc⟩ := mag_cell HYa.out HB.out i hy
          cases ey
          rw [HYI.out] at hyc
          go_wp2_with fail
          go_roundg k1
          case measure => omega
          case rel =>
            exact ⟨i + 1, _, _, rfl, by simp, ⟨by have := HK.out; omega⟩, HT, ⟨own_put HO.out i _⟩, ⟨HB.out.setCell gb _⟩⟩
        · have hy0 : yi = 0 := by rw [← HYI.out]; exact getD_ge (by omega)
          have HY0 := Aside0.mk hy0
          clear hy0
          go_wp2_with fail
          go_roundg k1
          case measure => omega
          case rel =>
            have e0 : c + xi + yi = c + xi := by have := HY0.out; omega
            rw [e0] at HT
            exact ⟨i + 1, _, _, rfl, by simp, ⟨by have := HK.out; omega⟩, HT, ⟨own_put HO.out i _⟩, ⟨HB.out.setCell gb _⟩⟩
end Go.Proofs.Ytdginjpppgfdaaa.Na

namespace Go.Proofs.Ytdginjpppgfdaaa.Nb
open Go.RowKit Go Go.Proofs.YtdginjpppgfdaaaW.PrintWords Go.Proofs.YtdginjpppgfdaaaW.PrintLast Go.Proofs.YtdginjpppgfdaaaW.PrintMore Go.Proofs.Ytdginjpppgfdaaa.Ml Go.Proofs.Ytdginjpppgfdaaa.Mn Go.Proofs.Ytdginjpppgfdaaa.Nd Go.Proofs.Ytdginjpppgfdaaa.P Go.Proofs.Ytdginjpppgfdaaa.Nc Go.Proofs.Ytdginjpppgfdaaa.Na
attribute [local go_sem] max2_int min2_int max_two min_two
set_option linter.unusedVariables false
set_option linter.unusedSimpArgs false

set_option maxHeartbeats 400000 in
theorem sign_n (c : Int) (w : World) : Calls Try.prog 98 #[.int .i64 c] w fun e w' => e = .returned (.int .i64 (cmpI c 0)) ∧ w = w' := by
  go_enter Try.func98, Try.ntmps98
  go_wp2
  all_goals
    go_ret
    refine ⟨?_, rfl⟩
    have h1 : ∀ x y : Int, x = y → Ending.returned (Value.int .i64 x) = Ending.returned (Value.int .i64 y) := fun _ _ h => by rw [h]
    refine h1 _ _ ?_
    unfold cmpI
    repeat' split
    all_goals first | omega | (split at * <;> omega)
theorem cmpMag_n (A0 : Option Addr) (c0 : Nat) (la : List Int) (A1 : Option Addr) (c1 : Nat) (lb : List Int) (w : World) (h0 : la.length ≤ c0) (r0 : Kd.C (Kd.int .u32) w A0 la.length la) (h1 : lb.length ≤ c1) (r1 : Kd.C (Kd.int .u32) w A1 lb.length lb) (ha : Cn 4294967296 la) (hb : Cn 4294967296 lb) (hn : la.length ≤ 1000000) (hm : lb.length ≤ 1000000) :
    Calls Try.prog 99 #[.slice A0 la.length c0, .slice A1 lb.length c1] w fun e w' => ∃ c, e = .returned (.int .i64 c) ∧ Sg c (dv 4294967296 la) (dv 4294967296 lb) ∧ Below w.heap.size w w' := by
  obtain ⟨c, hf, hs, _, _⟩ := cmp_f la lb ha hb (by omega) (by omega) (la.length + 1) (by omega)
  refine (num_cmpMag.calls (la.length + 1) A0 c0 la A1 c1 lb c w r0 h0 r1 h1 hf).mono ?_
  rintro e w' ⟨rfl, hd⟩
  exact ⟨c, rfl, hs, hd.below⟩
theorem Sg_cmp {c a b : Int} (h : Sg c a b) : cmpI c 0 = cmpI a b := by
  unfold Sg at h
  unfold cmpI
  repeat' split
  all_goals omega

set_option maxHeartbeats 2000000 in
set_option maxRecDepth 100000 in
theorem cmpAbs_n (ga oa gb ob : Nat) (a b : Int) (na nb : Nat) (w : World) (ha : IsN w ga oa a na) (hb : IsN w gb ob b nb) (hl : na + nb ≤ 1000) :
    Calls Try.prog 70 #[.pointer (some ⟨ga, oa, none⟩), .pointer (some ⟨gb, ob, none⟩)] w (ValP w (.int .i64 (cmpI (a.natAbs : Int) (b.natAbs : Int)))) := by
  obtain ⟨nega, Aa, cca, la, sa, hca, ra, ca, hla, hza, qa⟩ := ha.open
  obtain ⟨negb, Ab, ccb, lb, sb, hcb, rb, cb, hlb, hzb, qb⟩ := hb.open
  have eq1 := sg_abs (dv_nonneg (by decide) ca.dg) hza
  have eq2 := sg_abs (dv_nonneg (by decide) cb.dg) hzb
  rw [eq1, eq2]
  have a1 := sa.cell1
  have b1 := sb.cell1
  clear hza hzb eq1 eq2 ha hb
  go_enter Try.func70, Try.ntmps70
  go_wp2_with fail
  refine start_ (n := 11) (S := fun w' => w'.cell? ⟨ga, oa + 1, none⟩ = some (.slice Aa la.length cca) ∧ w'.cell? ⟨gb, ob + 1, none⟩ = some (.slice Ab lb.length ccb)) (ds := []) (bs 11 0) (by kernel_rfl) rfl rfl ⟨a1, b1⟩ (fun hHeld => ?_)
  refine pure_ (i := 0) (N := some 5) (v := ?_) (a' := ?_) (bs 11 1) rfl rfl (by kernel_rfl) (fun _ _ _ h => h) (Or.inl ⟨by rfl, ?_⟩) ?_ ?_; rotate_left; (· intro w'; go_simp; first | done | with_reducible rfl); rotate_left; (· simp only [Act.put, List.setIfInBounds_toArray, List.set_cons_zero, List.set_cons_succ, i64_w, i32_w]; rfl)
  refine pure_ (i := 1) (N := some 6) (v := ?_) (a' := ?_) (bs 11 3) rfl rfl (by kernel_rfl) (fun _ _ _ h => h) (Or.inl ⟨by rfl, ?_⟩) ?_ ?_; rotate_left; (· intro w'; go_simp; first | done | with_reducible rfl); rotate_left; (· simp only [Act.put, List.setIfInBounds_toArray, List.set_cons_zero, List.set_cons_succ, i64_w, i32_w]; rfl)
  refine pure_ (i := 2) (N := some 7) (v := ?_) (a' := ?_) (bs 11 7) rfl rfl (by kernel_rfl) (fun _ _ _ h => h) (Or.inl ⟨by rfl, ?_⟩) ?_ ?_; rotate_left; (· intro w'; go_simp; first | done | with_reducible rfl); rotate_left; (· simp only [Act.put, List.setIfInBounds_toArray, List.set_cons_zero, List.set_cons_succ, i64_w, i32_w]; rfl)
  refine pure_ (i := 4) (N := some 9) (v := ?_) (a' := ?_) (bs 11 23) rfl rfl (by kernel_rfl) (fun _ _ _ h => h) (Or.inl ⟨by rfl, ?_⟩) ?_ ?_; rotate_left; (· intro w'; go_simp; first | done | with_reducible rfl); rotate_left; (· simp only [Act.put, List.setIfInBounds_toArray, List.set_cons_zero, List.set_cons_succ, i64_w, i32_w]; rfl)
  refine pure_ (i := 5) (N := some 10) (v := ?_) (a' := ?_) (bs 11 55) rfl rfl (by kernel_rfl) (fun _ _ _ h => h) (Or.inl ⟨by rfl, ?_⟩) ?_ ?_; rotate_left; (· intro w'; go_simp; first | done | with_reducible rfl); rotate_left; (· simp only [Act.put, List.setIfInBounds_toArray, List.set_cons_zero, List.set_cons_succ, i64_w, i32_w]; rfl)
  refine pure_ (i := 6) (N := some 11) (v := ?_) (a' := ?_) (bs 11 119) rfl rfl (by kernel_rfl) (fun _ _ _ h => h) (Or.inl ⟨by rfl, ?_⟩) ?_ ?_; rotate_left; (· intro w'; go_simp; first | done | with_reducible rfl); rotate_left; (· simp only [Act.put, List.setIfInBounds_toArray, List.set_cons_zero, List.set_cons_succ, i64_w, i32_w]; rfl)
  refine take_ (i := 3) (N := some 8) (v := ?_) (a' := ?_) (bs 11 127) rfl rfl (by kernel_rfl) (fun _ _ _ h => h) (Or.inl ⟨by rfl, ?_⟩) hHeld ?_ ?_; rotate_left; (· rintro w' ⟨s0, s1⟩; go_simp; first | done | with_reducible rfl); rotate_left; (· simp only [Act.put, List.setIfInBounds_toArray, List.set_cons_zero, List.set_cons_succ, i64_w, i32_w]; rfl)
  refine take_ (i := 7) (N := some 12) (v := ?_) (a' := ?_) (bs 11 255) rfl rfl (by kernel_rfl) (fun _ _ _ h => h) (Or.inl ⟨by rfl, ?_⟩) hHeld ?_ ?_; rotate_left; (· rintro w' ⟨s0, s1⟩; go_simp; first | done | with_reducible rfl); rotate_left; (· simp only [Act.put, List.setIfInBounds_toArray, List.set_cons_zero, List.set_cons_succ, i64_w, i32_w]; rfl)
  refine one_ (i := 8) (N := some 13) (bs 11 511) rfl rfl (by kernel_rfl) (by decide) (fun K hK => ?_)
  refine goes_ Try.func99 (by kernel_rfl) rfl #[.slice Aa la.length cca, .slice Ab lb.length ccb] (by rfl) rfl rfl (by simp only [List.map_toArray, List.map_cons, List.map_nil]; rfl) ?_
  with_reducible refine (cmpMag_n Aa cca la Ab ccb lb _ hca (Kd.C_drew ra) hcb (Kd.C_drew rb) ca cb (by omega) (by omega)).mono ?_
  rintro e w1 ⟨c, rfl, hs, hd⟩
  refine ⟨_, rfl, ?_⟩
  have hb' := below_drew' hd
  refine hK.out _ _ ⟨(sa.below hb').cell1, (sb.below hb').cell1⟩ (fun hHeld => ?_)
  clear hK K
  refine norm_ (a' := ?_) ?_ ?_; rotate_left; (· show Act.put _ (some 13) _ = _; simp only [Act.put, List.setIfInBounds_toArray, List.set_cons_zero, List.set_cons_succ, i64_w, i32_w]; rfl)
  refine one_ (i := 9) (N := some 14) (bs 11 1023) rfl rfl (by kernel_rfl) (by decide) (fun K hK => ?_)
  refine goes_ Try.func98 (by kernel_rfl) rfl #[.int .i64 c] (by rfl) rfl rfl (by simp only [List.map_toArray, List.map_cons, List.map_nil]; rfl) ?_
  with_reducible refine (sign_n c _).mono ?_
  rintro e w2 ⟨rfl, rfl⟩
  refine ⟨_, rfl, ?_⟩
  refine hK.out _ _ ⟨(sa.below hb').cell1, (sb.below hb').cell1⟩ (fun hHeld => ?_)
  clear hK K
  refine norm_ (a' := ?_) ?_ ?_; rotate_left; (· show Act.put _ (some 14) _ = _; simp only [Act.put, List.setIfInBounds_toArray, List.set_cons_zero, List.set_cons_succ, i64_w, i32_w]; rfl)
  refine pure_ (i := 10) (N := some 4) (v := ?_) (a' := ?_) (bs 11 2047) rfl rfl (by kernel_rfl) (fun _ _ _ h => h) (Or.inl ⟨by rfl, ?_⟩) ?_ ?_; rotate_left; (· intro w'; go_simp; first | done | with_reducible rfl); rotate_left; (· simp only [Act.put, List.setIfInBounds_toArray, List.set_cons_zero, List.set_cons_succ, i64_w, i32_w]; rfl)
  refine done_ (by kernel_rfl) ?_
  have HS := Aside0.mk hs
  clear hs
  go_wp2
  go_ret
  exact ⟨ret_i (Sg_cmp HS.out), hb'⟩
set_option maxHeartbeats 2000000 in
set_option maxRecDepth 100000 in
theorem cmp_n (ga oa gb ob : Nat) (a b : Int) (na nb : Nat) (w : World) (ha : IsN w ga oa a na) (hb : IsN w gb ob b nb) (hl : na + nb ≤ 1000) :
    Calls Try.prog 91 #[.pointer (some ⟨ga, oa, none⟩), .pointer (some ⟨gb, ob, none⟩)] w (ValP w (.int .i64 (cmpI a b))) := by
  obtain ⟨nega, Aa, cca, la, sa, hca, ra, ca, hla, hza, qa⟩ := ha.open
  obtain ⟨negb, Ab, ccb, lb, sb, hcb, rb, cb, hlb, hzb, qb⟩ := hb.open
  have pa := dv_nonneg (by decide) ca.dg
  have pb := dv_nonneg (by decide) cb.dg
  have HQ := Aside0.mk (show (nega = true → 0 < dv 4294967296 la) ∧ (negb = true → 0 < dv 4294967296 lb) from ⟨fun h => dv_pos (by decide) ca (qa h), fun h => dv_pos (by decide) cb (qb h)⟩)
  have HP := Aside0.mk (And.intro pa pb)
  have HZ := Aside0.mk (And.intro hza hzb)
  have HA := Aside0.mk (And.intro ha hb)
  have a0 := sa.cell0
  have b0 := sb.cell0
  clear hza hzb ha hb pa pb qa qb sa sb hca hcb ra rb ca cb hla hlb
  cases nega <;> cases negb
  · go_enter Try.func91, Try.ntmps91
    go_wp2_with fail
    refine (cmpAbs_n ga oa gb ob a b na nb w HA.out.1 HA.out.2 hl).mono ?_
    rintro e w1 ⟨rfl, hb⟩
    go_wp2_with fail
    go_ret
    refine ⟨ret_i ?_, hb⟩
    obtain ⟨h1, h2⟩ := HP.out
    obtain ⟨h3, h4⟩ := HZ.out
    simp [sg] at h3 h4
    rw [show (a.natAbs : Int) = a by omega, show (b.natAbs : Int) = b by omega]
  · go_enter Try.func91, Try.ntmps91
    go_wp2_with fail
    go_ret
    refine ⟨ret_i ?_, Below.refl _ _⟩
    obtain ⟨h1, h2⟩ := HP.out
    obtain ⟨h3, h4⟩ := HZ.out
    have h5 := HQ.out.2
    simp at h5
    simp [sg] at h3 h4
    have : cmpI a b = 1 := by unfold cmpI; rw [if_neg (by omega), if_pos (by omega)]
    exact this.symm
  · go_enter Try.func91, Try.ntmps91
    go_wp2_with fail
    go_ret
    refine ⟨ret_i ?_, Below.refl _ _⟩
    obtain ⟨h1, h2⟩ := HP.out
    obtain ⟨h3, h4⟩ := HZ.out
    have h5 := HQ.out.1
    simp at h5
    simp [sg] at h3 h4
    have : cmpI a b = -1 := by unfold cmpI; rw [if_pos (by omega)]
    exact this.symm
  · go_enter Try.func91, Try.ntmps91
    go_wp2_with fail
    refine (cmpAbs_n ga oa gb ob a b na nb w HA.out.1 HA.out.2 hl).mono ?_
    rintro e w1 ⟨rfl, hb⟩
    go_wp2_with fail
    go_ret
    refine ⟨ret_i ?_, hb⟩
    obtain ⟨h1, h2⟩ := HP.out
    obtain ⟨h3, h4⟩ := HZ.out
    simp [sg] at h3 h4
    have e1 : (a.natAbs : Int) = -a := by omega
    have e2 : (b.natAbs : Int) = -b := by omega
    rw [e1, e2]
    have : wrap64 (-cmpI (-a) (-b)) = cmpI a b := by
      unfold cmpI wrap64
      repeat' split
      all_goals omega
    exact this

theorem sub_n (A0 : Option Addr) (c0 : Nat) (la : List Int) (A1 : Option Addr) (c1 : Nat) (lb : List Int) (w : World) (h0 : la.length ≤ c0) (r0 : Kd.C (Kd.int .u32) w A0 la.length la) (h1 : lb.length ≤ c1) (r1 : Kd.C (Kd.int .u32) w A1 lb.length lb) (ha : Cn 4294967296 la) (hb : Cn 4294967296 lb) (hn : la.length ≤ 1000000) (hle : dv 4294967296 lb ≤ dv 4294967296 la) :
    Calls Try.prog 114 #[.slice A0 la.length c0, .slice A1 lb.length c1] w fun e w' => ∃ v r, e = .returned v ∧ Mag w' v r ∧ Cn 4294967296 r ∧ dv 4294967296 r = dv 4294967296 la - dv 4294967296 lb ∧ r.length ≤ la.length ∧ Below w.heap.size w w' := by
  obtain ⟨k, r, hf, hc, hv, hl⟩ := sub_f la lb ha hb (by omega) hle
  refine (num_subMag.calls k A0 c0 la A1 c1 lb r w r0 h0 r1 h1 hf).mono ?_
  rintro e w' ⟨v, rfl, hV, hb⟩
  exact ⟨v, r, rfl, Mag.of hV, hc, hv, hl, hb⟩
set_option maxHeartbeats 4000000 in
set_option maxRecDepth 100000 in
theorem add_n (gx ox ga oa gb ob : Nat) (a b : Int) (na nb : Nat) (w : World) (hx : Room w gx ox) (ha : IsN w ga oa a na) (hb : IsW w gb ob b nb) (hl : na + nb ≤ 1000) :
    Calls Try.prog 85 #[.pointer (some ⟨gx, ox, none⟩), .pointer (some ⟨ga, oa, none⟩), .pointer (some ⟨gb, ob, none⟩)] w (SetP w gx ox (a + b) (max na nb + 1)) := by
  obtain ⟨nega, Aa, cca, la, sa, hca, ra, ca, hla, hza, qa⟩ := ha.open
  obtain ⟨negb, Ab, ccb, lb, sb, hcb, rb, cb, hlb, hzb⟩ := hb.at_
  have hma : na ≤ max na nb := Nat.le_max_left _ _
  have hmb : nb ≤ max na nb := Nat.le_max_right _ _
  have hmm : max la.length lb.length ≤ max na nb := Nat.max_le.2 ⟨by omega, by omega⟩
  generalize max na nb = nm at hma hmb hmm ⊢
  generalize hz : a + b = z
  rw [hza, hzb] at hz
  have a0 := sa.cell0
  have a1 := sa.cell1
  have b0 := sb.cell0
  have b1 := sb.cell1
  clear ha hb hza hzb qa
  by_cases hs : nega = negb
  · subst hs
    have HZ := Aside0.mk (show sg nega (dv 4294967296 la + dv 4294967296 lb) = z by rw [← hz]; cases nega <;> simp [sg]; omega)
    clear hz
    have ht : (nega == nega) = true := by simp
    go_enter Try.func85, Try.ntmps85
    go_wp2_with fail
    go_quiet (fail)
    go_wp2_with fail
    generalize hq : World.drewN w _ = W
    have hB : Below w.heap.size w W := by rw [← hq]; exact pw_below_drewN (Below.refl _ _) _
    clear hq
    replace ra := Kd.C_below ra hB
    replace rb := Kd.C_below rb hB
    replace sa := sa.below hB
    replace sb := sb.below hB
    replace hx := hx.below hB
    replace a0 := sa.cell0
    replace a1 := sa.cell1
    replace b0 := sb.cell0
    replace b1 := sb.cell1
    refine start_ (n := 16) (S := fun w' => w'.cell? ⟨ga, oa, none⟩ = some (.bool nega) ∧ w'.cell? ⟨ga, oa + 1, none⟩ = some (.slice Aa la.length cca) ∧ w'.cell? ⟨gb, ob + 1, none⟩ = some (.slice Ab lb.length ccb)) (ds := [14]) (bs 16 0) (by kernel_rfl) rfl rfl ⟨a0, a1, b1⟩ (fun hHeld => ?_)
    refine pure_ (i := 0) (N := some 16) (v := ?_) (a' := ?_) (bs 16 1) rfl rfl (by kernel_rfl) (fun _ _ _ h => h) (Or.inl ⟨by rfl, ?_⟩) ?_ ?_; rotate_left; (· intro w'; go_simp; first | done | with_reducible rfl); rotate_left; (· simp only [Act.put, List.setIfInBounds_toArray, List.set_cons_zero, List.set_cons_succ, i64_w, i32_w]; rfl)
    refine pure_ (i := 1) (N := some 17) (v := ?_) (a' := ?_) (bs 16 3) rfl rfl (by kernel_rfl) (fun _ _ _ h => h) (Or.inl ⟨by rfl, ?_⟩) ?_ ?_; rotate_left; (· intro w'; go_simp; first | done | with_reducible rfl); rotate_left; (· simp only [Act.put, List.setIfInBounds_toArray, List.set_cons_zero, List.set_cons_succ, i64_w, i32_w]; rfl)
    refine pure_ (i := 2) (N := some 18) (v := ?_) (a' := ?_) (bs 16 7) rfl rfl (by kernel_rfl) (fun _ _ _ h => h) (Or.inl ⟨by rfl, ?_⟩) ?_ ?_; rotate_left; (· intro w'; go_simp; first | done | with_reducible rfl); rotate_left; (· simp only [Act.put, List.setIfInBounds_toArray, List.set_cons_zero, List.set_cons_succ, i64_w, i32_w]; rfl)
    refine pure_ (i := 3) (N := some 19) (v := ?_) (a' := ?_) (bs 16 15) rfl rfl (by kernel_rfl) (fun _ _ _ h => h) (Or.inl ⟨by rfl, ?_⟩) ?_ ?_; rotate_left; (· intro w'; go_simp; first | done | with_reducible rfl); rotate_left; (· simp only [Act.put, List.setIfInBounds_toArray, List.set_cons_zero, List.set_cons_succ, i64_w, i32_w]; rfl)
    refine pure_ (i := 5) (N := some 21) (v := ?_) (a' := ?_) (bs 16 47) rfl rfl (by kernel_rfl) (fun _ _ _ h => h) (Or.inl ⟨by rfl, ?_⟩) ?_ ?_; rotate_left; (· intro w'; go_simp; first | done | with_reducible rfl); rotate_left; (· simp only [Act.put, List.setIfInBounds_toArray, List.set_cons_zero, List.set_cons_succ, i64_w, i32_w]; rfl)
    refine pure_ (i := 6) (N := some 22) (v := ?_) (a' := ?_) (bs 16 111) rfl rfl (by kernel_rfl) (fun _ _ _ h => h) (Or.inl ⟨by rfl, ?_⟩) ?_ ?_; rotate_left; (· intro w'; go_simp; first | done | with_reducible rfl); rotate_left; (· simp only [Act.put, List.setIfInBounds_toArray, List.set_cons_zero, List.set_cons_succ, i64_w, i32_w]; rfl)
    refine pure_ (i := 7) (N := some 23) (v := ?_) (a' := ?_) (bs 16 239) rfl rfl (by kernel_rfl) (fun _ _ _ h => h) (Or.inl ⟨by rfl, ?_⟩) ?_ ?_; rotate_left; (· intro w'; go_simp; first | done | with_reducible rfl); rotate_left; (· simp only [Act.put, List.setIfInBounds_toArray, List.set_cons_zero, List.set_cons_succ, i64_w, i32_w]; rfl)
    refine pure_ (i := 9) (N := some 25) (v := ?_) (a' := ?_) (bs 16 751) rfl rfl (by kernel_rfl) (fun _ _ _ h => h) (Or.inl ⟨by rfl, ?_⟩) ?_ ?_; rotate_left; (· intro w'; go_simp; first | done | with_reducible rfl); rotate_left; (· simp only [Act.put, List.setIfInBounds_toArray, List.set_cons_zero, List.set_cons_succ, i64_w, i32_w]; rfl)
    refine pure_ (i := 10) (N := some 26) (v := ?_) (a' := ?_) (bs 16 1775) rfl rfl (by kernel_rfl) (fun _ _ _ h => h) (Or.inl ⟨by rfl, ?_⟩) ?_ ?_; rotate_left; (· intro w'; go_simp; first | done | with_reducible rfl); rotate_left; (· simp only [Act.put, List.setIfInBounds_toArray, List.set_cons_zero, List.set_cons_succ, i64_w, i32_w]; rfl)
    refine pure_ (i := 11) (N := some 27) (v := ?_) (a' := ?_) (bs 16 3823) rfl rfl (by kernel_rfl) (fun _ _ _ h => h) (Or.inl ⟨by rfl, ?_⟩) ?_ ?_; rotate_left; (· intro w'; go_simp; first | done | with_reducible rfl); rotate_left; (· simp only [Act.put, List.setIfInBounds_toArray, List.set_cons_zero, List.set_cons_succ, i64_w, i32_w]; rfl)
    refine take_ (i := 4) (N := some 20) (v := ?_) (a' := ?_) (bs 16 3839) rfl rfl (by kernel_rfl) (fun _ _ _ h => h) (Or.inl ⟨by rfl, ?_⟩) hHeld ?_ ?_; rotate_left; (· rintro w' ⟨s0, s1, s2⟩; go_simp; first | done | with_reducible rfl); rotate_left; (· simp only [Act.put, List.setIfInBounds_toArray, List.set_cons_zero, List.set_cons_succ, i64_w, i32_w]; rfl)
    refine take_ (i := 8) (N := some 24) (v := ?_) (a' := ?_) (bs 16 4095) rfl rfl (by kernel_rfl) (fun _ _ _ h => h) (Or.inl ⟨by rfl, ?_⟩) hHeld ?_ ?_; rotate_left; (· rintro w' ⟨s0, s1, s2⟩; go_simp; first | done | with_reducible rfl); rotate_left; (· simp only [Act.put, List.setIfInBounds_toArray, List.set_cons_zero, List.set_cons_succ, i64_w, i32_w]; rfl)
    refine take_ (i := 12) (N := some 28) (v := ?_) (a' := ?_) (bs 16 8191) rfl rfl (by kernel_rfl) (fun _ _ _ h => h) (Or.inl ⟨by rfl, ?_⟩) hHeld ?_ ?_; rotate_left; (· rintro w' ⟨s0, s1, s2⟩; go_simp; first | done | with_reducible rfl); rotate_left; (· simp only [Act.put, List.setIfInBounds_toArray, List.set_cons_zero, List.set_cons_succ, i64_w, i32_w]; rfl)
    refine one_ (i := 13) (N := some 29) (bs 16 16383) rfl rfl (by kernel_rfl) (by decide) (fun K hK => ?_)
    refine goes_ Try.func113 (by kernel_rfl) rfl #[.slice Aa la.length cca, .slice Ab lb.length ccb] (by rfl) rfl rfl (by simp only [List.map_toArray, List.map_cons, List.map_nil]; rfl) ?_
    with_reducible refine (addMag_n (.slice Aa la.length cca) (.slice Ab lb.length ccb) la lb _ (Mag.mk' hca (Kd.C_drew ra)) (Mag.mk' hcb (Kd.C_drew rb)) ca.dg cb.dg (by omega) (by omega)).mono ?_
    rintro e w1 ⟨v, r, rfl, hM, hc, hv, hn, hb⟩
    refine ⟨_, rfl, ?_⟩
    have hb' := below_drew' hb
    refine hK.out _ _ ⟨(sa.below hb').cell0, (sa.below hb').cell1, (sb.below hb').cell1⟩ (fun hHeld => ?_)
    clear hK K
    refine norm_ (a' := ?_) ?_ ?_; rotate_left; (· show Act.put _ (some 29) _ = _; simp only [Act.put, List.setIfInBounds_toArray, List.set_cons_zero, List.set_cons_succ, i64_w, i32_w]; rfl)
    refine last_ (i := 14) (N := some 30) (bs 16 32767) rfl rfl (by kernel_rfl) (by decide) (fun K hK => ?_)
    refine goes_ Try.func102 (by kernel_rfl) rfl #[.pointer (some ⟨gx, ox, none⟩), .bool nega, v] (by rfl) rfl rfl (by simp only [List.map_toArray, List.map_cons, List.map_nil]; rfl) ?_
    with_reducible refine (set_n gx ox v r nega (nm + 1) w1 (hx.below hb') hM hc (by omega)).mono ?_
    rintro e w2 ⟨rfl, hw, hN⟩
    refine ⟨_, rfl, ?_⟩
    refine hK.out _ _ ?_
    clear hK K
    refine norm_ (a' := ?_) ?_ ?_; rotate_left; (· show Act.put _ (some 30) _ = _; simp only [Act.put, List.setIfInBounds_toArray, List.set_cons_zero, List.set_cons_succ, i64_w, i32_w]; rfl)
    refine pure_ (i := 15) (N := some 6) (v := ?_) (a' := ?_) (bs 16 65535) rfl rfl (by kernel_rfl) (fun _ _ _ h => h) (Or.inl ⟨by rfl, ?_⟩) ?_ ?_; rotate_left; (· intro w'; go_simp; first | done | with_reducible rfl); rotate_left; (· simp only [Act.put, List.setIfInBounds_toArray, List.set_cons_zero, List.set_cons_succ, i64_w, i32_w]; rfl)
    refine done_ (by kernel_rfl) ?_
    have HN := Aside0.mk hN
    have HV := Aside0.mk hv
    clear hN hv
    go_wp2
    go_ret
    refine ⟨rfl, (Wrote.of_below (hB.trans (hb'.mono hB.size)) gx ox).trans hw, ?_⟩
    have h1 := HN.out
    rw [HV.out, HZ.out] at h1
    exact h1
  · have ht : (nega == negb) = false := by simp [hs]
    have hn2 : negb = !nega := by cases nega <;> cases negb <;> simp_all
    have pa := dv_nonneg (by decide) ca.dg
    have pb := dv_nonneg (by decide) cb.dg
    have HT := Aside0.mk hn2
    clear hn2 hs
    by_cases hle : dv 4294967296 lb ≤ dv 4294967296 la
    · have HZ := Aside0.mk (show sg nega (dv 4294967296 la - dv 4294967296 lb) = z by rw [← hz, HT.out]; cases nega <;> simp [sg] <;> omega)
      have HLE := Aside0.mk hle
      clear hz hle pa pb
      go_enter Try.func85, Try.ntmps85
      go_wp2_with fail
      go_quiet (fail)
      go_wp2_with fail
      generalize hq : World.drewN w _ = W
      have hB : Below w.heap.size w W := by rw [← hq]; exact pw_below_drewN (Below.refl _ _) _
      clear hq
      replace ra := Kd.C_below ra hB
      replace rb := Kd.C_below rb hB
      replace sa := sa.below hB
      replace sb := sb.below hB
      replace hx := hx.below hB
      replace a0 := sa.cell0
      replace a1 := sa.cell1
      replace b0 := sb.cell0
      replace b1 := sb.cell1
      refine start_ (n := 10) (S := fun w' => w'.cell? ⟨ga, oa + 1, none⟩ = some (.slice Aa la.length cca) ∧ w'.cell? ⟨gb, ob + 1, none⟩ = some (.slice Ab lb.length ccb)) (ds := []) (bs 10 0) (by kernel_rfl) rfl rfl ⟨a1, b1⟩ (fun hHeld => ?_)
      refine pure_ (i := 0) (N := some 31) (v := ?_) (a' := ?_) (bs 10 1) rfl rfl (by kernel_rfl) (fun _ _ _ h => h) (Or.inl ⟨by rfl, ?_⟩) ?_ ?_; rotate_left; (· intro w'; go_simp; first | done | with_reducible rfl); rotate_left; (· simp only [Act.put, List.setIfInBounds_toArray, List.set_cons_zero, List.set_cons_succ, i64_w, i32_w]; rfl)
      refine pure_ (i := 1) (N := some 32) (v := ?_) (a' := ?_) (bs 10 3) rfl rfl (by kernel_rfl) (fun _ _ _ h => h) (Or.inl ⟨by rfl, ?_⟩) ?_ ?_; rotate_left; (· intro w'; go_simp; first | done | with_reducible rfl); rotate_left; (· simp only [Act.put, List.setIfInBounds_toArray, List.set_cons_zero, List.set_cons_succ, i64_w, i32_w]; rfl)
      refine pure_ (i := 2) (N := some 33) (v := ?_) (a' := ?_) (bs 10 7) rfl rfl (by kernel_rfl) (fun _ _ _ h => h) (Or.inl ⟨by rfl, ?_⟩) ?_ ?_; rotate_left; (· intro w'; go_simp; first | done | with_reducible rfl); rotate_left; (· simp only [Act.put, List.setIfInBounds_toArray, List.set_cons_zero, List.set_cons_succ, i64_w, i32_w]; rfl)
      refine pure_ (i := 4) (N := some 35) (v := ?_) (a' := ?_) (bs 10 23) rfl rfl (by kernel_rfl) (fun _ _ _ h => h) (Or.inl ⟨by rfl, ?_⟩) ?_ ?_; rotate_left; (· intro w'; go_simp; first | done | with_reducible rfl); rotate_left; (· simp only [Act.put, List.setIfInBounds_toArray, List.set_cons_zero, List.set_cons_succ, i64_w, i32_w]; rfl)
      refine pure_ (i := 5) (N := some 36) (v := ?_) (a' := ?_) (bs 10 55) rfl rfl (by kernel_rfl) (fun _ _ _ h => h) (Or.inl ⟨by rfl, ?_⟩) ?_ ?_; rotate_left; (· intro w'; go_simp; first | done | with_reducible rfl); rotate_left; (· simp only [Act.put, List.setIfInBounds_toArray, List.set_cons_zero, List.set_cons_succ, i64_w, i32_w]; rfl)
      refine pure_ (i := 6) (N := some 37) (v := ?_) (a' := ?_) (bs 10 119) rfl rfl (by kernel_rfl) (fun _ _ _ h => h) (Or.inl ⟨by rfl, ?_⟩) ?_ ?_; rotate_left; (· intro w'; go_simp; first | done | with_reducible rfl); rotate_left; (· simp only [Act.put, List.setIfInBounds_toArray, List.set_cons_zero, List.set_cons_succ, i64_w, i32_w]; rfl)
      refine take_ (i := 3) (N := some 34) (v := ?_) (a' := ?_) (bs 10 127) rfl rfl (by kernel_rfl) (fun _ _ _ h => h) (Or.inl ⟨by rfl, ?_⟩) hHeld ?_ ?_; rotate_left; (· rintro w' ⟨s0, s1⟩; go_simp; first | done | with_reducible rfl); rotate_left; (· simp only [Act.put, List.setIfInBounds_toArray, List.set_cons_zero, List.set_cons_succ, i64_w, i32_w]; rfl)
      refine take_ (i := 7) (N := some 38) (v := ?_) (a' := ?_) (bs 10 255) rfl rfl (by kernel_rfl) (fun _ _ _ h => h) (Or.inl ⟨by rfl, ?_⟩) hHeld ?_ ?_; rotate_left; (· rintro w' ⟨s0, s1⟩; go_simp; first | done | with_reducible rfl); rotate_left; (· simp only [Act.put, List.setIfInBounds_toArray, List.set_cons_zero, List.set_cons_succ, i64_w, i32_w]; rfl)
      refine one_ (i := 8) (N := some 39) (bs 10 511) rfl rfl (by kernel_rfl) (by decide) (fun K hK => ?_)
      refine goes_ Try.func99 (by kernel_rfl) rfl #[.slice Aa la.length cca, .slice Ab lb.length ccb] (by rfl) rfl rfl (by simp only [List.map_toArray, List.map_cons, List.map_nil]; rfl) ?_
      with_reducible refine (cmpMag_n Aa cca la Ab ccb lb _ hca (Kd.C_drew ra) hcb (Kd.C_drew rb) ca cb (by omega) (by omega)).mono ?_
      rintro e W2 ⟨c, rfl, hs, hd⟩
      refine ⟨_, rfl, ?_⟩
      have hb2 := below_drew' hd
      refine hK.out _ _ ⟨(sa.below hb2).cell1, (sb.below hb2).cell1⟩ (fun hHeld => ?_)
      clear hK K
      refine norm_ (a' := ?_) ?_ ?_; rotate_left; (· show Act.put _ (some 39) _ = _; simp only [Act.put, List.setIfInBounds_toArray, List.set_cons_zero, List.set_cons_succ, i64_w, i32_w]; rfl)
      refine pure_ (i := 9) (N := some 40) (v := ?_) (a' := ?_) (bs 10 1023) rfl rfl (by kernel_rfl) (fun _ _ _ h => h) (Or.inl ⟨by rfl, ?_⟩) ?_ ?_; rotate_left; (· intro w'; go_simp; first | done | with_reducible rfl); rotate_left; (· simp only [Act.put, List.setIfInBounds_toArray, List.set_cons_zero, List.set_cons_succ, i64_w, i32_w]; rfl)
      refine done_ (by kernel_rfl) ?_
      have hc0 : 0 ≤ c := by have := HLE.out; unfold Sg at hs; omega
      clear hs
      go_wp2_with fail
      replace ra := Kd.C_below ra hb2
      replace rb := Kd.C_below rb hb2
      replace sa := sa.below hb2
      replace sb := sb.below hb2
      replace hx := hx.below hb2
      replace a0 := sa.cell0
      replace a1 := sa.cell1
      replace b0 := sb.cell0
      replace b1 := sb.cell1
      refine start_ (n := 16) (S := fun w' => w'.cell? ⟨ga, oa, none⟩ = some (.bool nega) ∧ w'.cell? ⟨ga, oa + 1, none⟩ = some (.slice Aa la.length cca) ∧ w'.cell? ⟨gb, ob + 1, none⟩ = some (.slice Ab lb.length ccb)) (ds := [14]) (bs 16 0) (by kernel_rfl) rfl rfl ⟨a0, a1, b1⟩ (fun hHeld => ?_)
      refine pure_ (i := 0) (N := some 41) (v := ?_) (a' := ?_) (bs 16 1) rfl rfl (by kernel_rfl) (fun _ _ _ h => h) (Or.inl ⟨by rfl, ?_⟩) ?_ ?_; rotate_left; (· intro w'; go_simp; first | done | with_reducible rfl); rotate_left; (· simp only [Act.put, List.setIfInBounds_toArray, List.set_cons_zero, List.set_cons_succ, i64_w, i32_w]; rfl)
      refine pure_ (i := 1) (N := some 42) (v := ?_) (a' := ?_) (bs 16 3) rfl rfl (by kernel_rfl) (fun _ _ _ h => h) (Or.inl ⟨by rfl, ?_⟩) ?_ ?_; rotate_left; (· intro w'; go_simp; first | done | with_reducible rfl); rotate_left; (· simp only [Act.put, List.setIfInBounds_toArray, List.set_cons_zero, List.set_cons_succ, i64_w, i32_w]; rfl)
      refine pure_ (i := 2) (N := some 43) (v := ?_) (a' := ?_) (bs 16 7) rfl rfl (by kernel_rfl) (fun _ _ _ h => h) (Or.inl ⟨by rfl, ?_⟩) ?_ ?_; rotate_left; (· intro w'; go_simp; first | done | with_reducible rfl); rotate_left; (· simp only [Act.put, List.setIfInBounds_toArray, List.set_cons_zero, List.set_cons_succ, i64_w, i32_w]; rfl)
      refine pure_ (i := 3) (N := some 44) (v := ?_) (a' := ?_) (bs 16 15) rfl rfl (by kernel_rfl) (fun _ _ _ h => h) (Or.inl ⟨by rfl, ?_⟩) ?_ ?_; rotate_left; (· intro w'; go_simp; first | done | with_reducible rfl); rotate_left; (· simp only [Act.put, List.setIfInBounds_toArray, List.set_cons_zero, List.set_cons_succ, i64_w, i32_w]; rfl)
      refine pure_ (i := 5) (N := some 46) (v := ?_) (a' := ?_) (bs 16 47) rfl rfl (by kernel_rfl) (fun _ _ _ h => h) (Or.inl ⟨by rfl, ?_⟩) ?_ ?_; rotate_left; (· intro w'; go_simp; first | done | with_reducible rfl); rotate_left; (· simp only [Act.put, List.setIfInBounds_toArray, List.set_cons_zero, List.set_cons_succ, i64_w, i32_w]; rfl)
      refine pure_ (i := 6) (N := some 47) (v := ?_) (a' := ?_) (bs 16 111) rfl rfl (by kernel_rfl) (fun _ _ _ h => h) (Or.inl ⟨by rfl, ?_⟩) ?_ ?_; rotate_left; (· intro w'; go_simp; first | done | with_reducible rfl); rotate_left; (· simp only [Act.put, List.setIfInBounds_toArray, List.set_cons_zero, List.set_cons_succ, i64_w, i32_w]; rfl)
      refine pure_ (i := 7) (N := some 48) (v := ?_) (a' := ?_) (bs 16 239) rfl rfl (by kernel_rfl) (fun _ _ _ h => h) (Or.inl ⟨by rfl, ?_⟩) ?_ ?_; rotate_left; (· intro w'; go_simp; first | done | with_reducible rfl); rotate_left; (· simp only [Act.put, List.setIfInBounds_toArray, List.set_cons_zero, List.set_cons_succ, i64_w, i32_w]; rfl)
      refine pure_ (i := 9) (N := some 50) (v := ?_) (a' := ?_) (bs 16 751) rfl rfl (by kernel_rfl) (fun _ _ _ h => h) (Or.inl ⟨by rfl, ?_⟩) ?_ ?_; rotate_left; (· intro w'; go_simp; first | done | with_reducible rfl); rotate_left; (· simp only [Act.put, List.setIfInBounds_toArray, List.set_cons_zero, List.set_cons_succ, i64_w, i32_w]; rfl)
      refine pure_ (i := 10) (N := some 51) (v := ?_) (a' := ?_) (bs 16 1775) rfl rfl (by kernel_rfl) (fun _ _ _ h => h) (Or.inl ⟨by rfl, ?_⟩) ?_ ?_; rotate_left; (· intro w'; go_simp; first | done | with_reducible rfl); rotate_left; (· simp only [Act.put, List.setIfInBounds_toArray, List.set_cons_zero, List.set_cons_succ, i64_w, i32_w]; rfl)
      refine pure_ (i := 11) (N := some 52) (v := ?_) (a' := ?_) (bs 16 3823) rfl rfl (by kernel_rfl) (fun _ _ _ h => h) (Or.inl ⟨by rfl, ?_⟩) ?_ ?_; rotate_left; (· intro w'; go_simp; first | done | with_reducible rfl); rotate_left; (· simp only [Act.put, List.setIfInBounds_toArray, List.set_cons_zero, List.set_cons_succ, i64_w, i32_w]; rfl)
      refine take_ (i := 4) (N := some 45) (v := ?_) (a' := ?_) (bs 16 3839) rfl rfl (by kernel_rfl) (fun _ _ _ h => h) (Or.inl ⟨by rfl, ?_⟩) hHeld ?_ ?_; rotate_left; (· rintro w' ⟨s0, s1, s2⟩; go_simp; first | done | with_reducible rfl); rotate_left; (· simp only [Act.put, List.setIfInBounds_toArray, List.set_cons_zero, List.set_cons_succ, i64_w, i32_w]; rfl)
      refine take_ (i := 8) (N := some 49) (v := ?_) (a' := ?_) (bs 16 4095) rfl rfl (by kernel_rfl) (fun _ _ _ h => h) (Or.inl ⟨by rfl, ?_⟩) hHeld ?_ ?_; rotate_left; (· rintro w' ⟨s0, s1, s2⟩; go_simp; first | done | with_reducible rfl); rotate_left; (· simp only [Act.put, List.setIfInBounds_toArray, List.set_cons_zero, List.set_cons_succ, i64_w, i32_w]; rfl)
      refine take_ (i := 12) (N := some 53) (v := ?_) (a' := ?_) (bs 16 8191) rfl rfl (by kernel_rfl) (fun _ _ _ h => h) (Or.inl ⟨by rfl, ?_⟩) hHeld ?_ ?_; rotate_left; (· rintro w' ⟨s0, s1, s2⟩; go_simp; first | done | with_reducible rfl); rotate_left; (· simp only [Act.put, List.setIfInBounds_toArray, List.set_cons_zero, List.set_cons_succ, i64_w, i32_w]; rfl)
      refine one_ (i := 13) (N := some 54) (bs 16 16383) rfl rfl (by kernel_rfl) (by decide) (fun K hK => ?_)
      refine goes_ Try.func114 (by kernel_rfl) rfl #[.slice Aa la.length cca, .slice Ab lb.length ccb] (by rfl) rfl rfl (by simp only [List.map_toArray, List.map_cons, List.map_nil]; rfl) ?_
      with_reducible refine (sub_n Aa cca la Ab ccb lb _ hca (Kd.C_drew ra) hcb (Kd.C_drew rb) ca cb (by omega) HLE.out).mono ?_
      rintro e w1 ⟨v, r, rfl, hM, hc, hv, hn, hb⟩
      refine ⟨_, rfl, ?_⟩
      have hb' := below_drew' hb
      refine hK.out _ _ ⟨(sa.below hb').cell0, (sa.below hb').cell1, (sb.below hb').cell1⟩ (fun hHeld => ?_)
      clear hK K
      refine norm_ (a' := ?_) ?_ ?_; rotate_left; (· show Act.put _ (some 54) _ = _; simp only [Act.put, List.setIfInBounds_toArray, List.set_cons_zero, List.set_cons_succ, i64_w, i32_w]; rfl)
      refine last_ (i := 14) (N := some 55) (bs 16 32767) rfl rfl (by kernel_rfl) (by decide) (fun K hK => ?_)
      refine goes_ Try.func102 (by kernel_rfl) rfl #[.pointer (some ⟨gx, ox, none⟩), .bool nega, v] (by rfl) rfl rfl (by simp only [List.map_toArray, List.map_cons, List.map_nil]; rfl) ?_
      with_reducible refine (set_n gx ox v r nega (nm + 1) w1 (hx.below hb') hM hc (by omega)).mono ?_
      rintro e w2 ⟨rfl, hw, hN⟩
      refine ⟨_, rfl, ?_⟩
      refine hK.out _ _ ?_
      clear hK K
      refine norm_ (a' := ?_) ?_ ?_; rotate_left; (· show Act.put _ (some 55) _ = _; simp only [Act.put, List.setIfInBounds_toArray, List.set_cons_zero, List.set_cons_succ, i64_w, i32_w]; rfl)
      refine pure_ (i := 15) (N := some 6) (v := ?_) (a' := ?_) (bs 16 65535) rfl rfl (by kernel_rfl) (fun _ _ _ h => h) (Or.inl ⟨by rfl, ?_⟩) ?_ ?_; rotate_left; (· intro w'; go_simp; first | done | with_reducible rfl); rotate_left; (· simp only [Act.put, List.setIfInBounds_toArray, List.set_cons_zero, List.set_cons_succ, i64_w, i32_w]; rfl)
      refine done_ (by kernel_rfl) ?_
      have HN := Aside0.mk hN
      have HV := Aside0.mk hv
      clear hN hv
      go_wp2
      go_ret
      refine ⟨rfl, (Wrote.of_below ((hB.trans (hb2.mono hB.size)).trans (hb'.mono (hB.trans (hb2.mono hB.size)).size)) gx ox).trans hw, ?_⟩
      have h1 := HN.out
      rw [HV.out, HZ.out] at h1
      exact h1
    · have HZ := Aside0.mk (show sg negb (dv 4294967296 lb - dv 4294967296 la) = z by rw [← hz, HT.out]; cases nega <;> simp [sg] <;> omega)
      have HLE := Aside0.mk (show dv 4294967296 la < dv 4294967296 lb by omega)
      clear hz hle pa pb
      go_enter Try.func85, Try.ntmps85
      go_wp2_with fail
      go_quiet (fail)
      go_wp2_with fail
      generalize hq : World.drewN w _ = W
      have hB : Below w.heap.size w W := by rw [← hq]; exact pw_below_drewN (Below.refl _ _) _
      clear hq
      replace ra := Kd.C_below ra hB
      replace rb := Kd.C_below rb hB
      replace sa := sa.below hB
      replace sb := sb.below hB
      replace hx := hx.below hB
      replace a0 := sa.cell0
      replace a1 := sa.cell1
      replace b0 := sb.cell0
      replace b1 := sb.cell1
      refine start_ (n := 10) (S := fun w' => w'.cell? ⟨ga, oa + 1, none⟩ = some (.slice Aa la.length cca) ∧ w'.cell? ⟨gb, ob + 1, none⟩ = some (.slice Ab lb.length ccb)) (ds := []) (bs 10 0) (by kernel_rfl) rfl rfl ⟨a1, b1⟩ (fun hHeld => ?_)
      refine pure_ (i := 0) (N := some 31) (v := ?_) (a' := ?_) (bs 10 1) rfl rfl (by kernel_rfl) (fun _ _ _ h => h) (Or.inl ⟨by rfl, ?_⟩) ?_ ?_; rotate_left; (· intro w'; go_simp; first | done | with_reducible rfl); rotate_left; (· simp only [Act.put, List.setIfInBounds_toArray, List.set_cons_zero, List.set_cons_succ, i64_w, i32_w]; rfl)
      refine pure_ (i := 1) (N := some 32) (v := ?_) (a' := ?_) (bs 10 3) rfl rfl (by kernel_rfl) (fun _ _ _ h => h) (Or.inl ⟨by rfl, ?_⟩) ?_ ?_; rotate_left; (· intro w'; go_simp; first | done | with_reducible rfl); rotate_left; (· simp only [Act.put, List.setIfInBounds_toArray, List.set_cons_zero, List.set_cons_succ, i64_w, i32_w]; rfl)
      refine pure_ (i := 2) (N := some 33) (v := ?_) (a' := ?_) (bs 10 7) rfl rfl (by kernel_rfl) (fun _ _ _ h => h) (Or.inl ⟨by rfl, ?_⟩) ?_ ?_; rotate_left; (· intro w'; go_simp; first | done | with_reducible rfl); rotate_left; (· simp only [Act.put, List.setIfInBounds_toArray, List.set_cons_zero, List.set_cons_succ, i64_w, i32_w]; rfl)
      refine pure_ (i := 4) (N := some 35) (v := ?_) (a' := ?_) (bs 10 23) rfl rfl (by kernel_rfl) (fun _ _ _ h => h) (Or.inl ⟨by rfl, ?_⟩) ?_ ?_; rotate_left; (· intro w'; go_simp; first | done | with_reducible rfl); rotate_left; (· simp only [Act.put, List.setIfInBounds_toArray, List.set_cons_zero, List.set_cons_succ, i64_w, i32_w]; rfl)
      refine pure_ (i := 5) (N := some 36) (v := ?_) (a' := ?_) (bs 10 55) rfl rfl (by kernel_rfl) (fun _ _ _ h => h) (Or.inl ⟨by rfl, ?_⟩) ?_ ?_; rotate_left; (· intro w'; go_simp; first | done | with_reducible rfl); rotate_left; (· simp only [Act.put, List.setIfInBounds_toArray, List.set_cons_zero, List.set_cons_succ, i64_w, i32_w]; rfl)
      refine pure_ (i := 6) (N := some 37) (v := ?_) (a' := ?_) (bs 10 119) rfl rfl (by kernel_rfl) (fun _ _ _ h => h) (Or.inl ⟨by rfl, ?_⟩) ?_ ?_; rotate_left; (· intro w'; go_simp; first | done | with_reducible rfl); rotate_left; (· simp only [Act.put, List.setIfInBounds_toArray, List.set_cons_zero, List.set_cons_succ, i64_w, i32_w]; rfl)
      refine take_ (i := 3) (N := some 34) (v := ?_) (a' := ?_) (bs 10 127) rfl rfl (by kernel_rfl) (fun _ _ _ h => h) (Or.inl ⟨by rfl, ?_⟩) hHeld ?_ ?_; rotate_left; (· rintro w' ⟨s0, s1⟩; go_simp; first | done | with_reducible rfl); rotate_left; (· simp only [Act.put, List.setIfInBounds_toArray, List.set_cons_zero, List.set_cons_succ, i64_w, i32_w]; rfl)
      refine take_ (i := 7) (N := some 38) (v := ?_) (a' := ?_) (bs 10 255) rfl rfl (by kernel_rfl) (fun _ _ _ h => h) (Or.inl ⟨by rfl, ?_⟩) hHeld ?_ ?_; rotate_left; (· rintro w' ⟨s0, s1⟩; go_simp; first | done | with_reducible rfl); rotate_left; (· simp only [Act.put, List.setIfInBounds_toArray, List.set_cons_zero, List.set_cons_succ, i64_w, i32_w]; rfl)
      refine one_ (i := 8) (N := some 39) (bs 10 511) rfl rfl (by kernel_rfl) (by decide) (fun K hK => ?_)
      refine goes_ Try.func99 (by kernel_rfl) rfl #[.slice Aa la.length cca, .slice Ab lb.length ccb] (by rfl) rfl rfl (by simp only [List.map_toArray, List.map_cons, List.map_nil]; rfl) ?_
      with_reducible refine (cmpMag_n Aa cca la Ab ccb lb _ hca (Kd.C_drew ra) hcb (Kd.C_drew rb) ca cb (by omega) (by omega)).mono ?_
      rintro e W2 ⟨c, rfl, hs, hd⟩
      refine ⟨_, rfl, ?_⟩
      have hb2 := below_drew' hd
      refine hK.out _ _ ⟨(sa.below hb2).cell1, (sb.below hb2).cell1⟩ (fun hHeld => ?_)
      clear hK K
      refine norm_ (a' := ?_) ?_ ?_; rotate_left; (· show Act.put _ (some 39) _ = _; simp only [Act.put, List.setIfInBounds_toArray, List.set_cons_zero, List.set_cons_succ, i64_w, i32_w]; rfl)
      refine pure_ (i := 9) (N := some 40) (v := ?_) (a' := ?_) (bs 10 1023) rfl rfl (by kernel_rfl) (fun _ _ _ h => h) (Or.inl ⟨by rfl, ?_⟩) ?_ ?_; rotate_left; (· intro w'; go_simp; first | done | with_reducible rfl); rotate_left; (· simp only [Act.put, List.setIfInBounds_toArray, List.set_cons_zero, List.set_cons_succ, i64_w, i32_w]; rfl)
      refine done_ (by kernel_rfl) ?_
      have hc0 : c < 0 := by have := HLE.out; unfold Sg at hs; omega
      clear hs
      go_wp2_with fail
      replace ra := Kd.C_below ra hb2
      replace rb := Kd.C_below rb hb2
      replace sa := sa.below hb2
      replace sb := sb.below hb2
      replace hx := hx.below hb2
      replace a0 := sa.cell0
      replace a1 := sa.cell1
      replace b0 := sb.cell0
      replace b1 := sb.cell1
      refine start_ (n := 16) (S := fun w' => w'.cell? ⟨gb, ob, none⟩ = some (.bool negb) ∧ w'.cell? ⟨gb, ob + 1, none⟩ = some (.slice Ab lb.length ccb) ∧ w'.cell? ⟨ga, oa + 1, none⟩ = some (.slice Aa la.length cca)) (ds := [14]) (bs 16 0) (by kernel_rfl) rfl rfl ⟨b0, b1, a1⟩ (fun hHeld => ?_)
      refine pure_ (i := 0) (N := some 56) (v := ?_) (a' := ?_) (bs 16 1) rfl rfl (by kernel_rfl) (fun _ _ _ h => h) (Or.inl ⟨by rfl, ?_⟩) ?_ ?_; rotate_left; (· intro w'; go_simp; first | done | with_reducible rfl); rotate_left; (· simp only [Act.put, List.setIfInBounds_toArray, List.set_cons_zero, List.set_cons_succ, i64_w, i32_w]; rfl)
      refine pure_ (i := 1) (N := some 57) (v := ?_) (a' := ?_) (bs 16 3) rfl rfl (by kernel_rfl) (fun _ _ _ h => h) (Or.inl ⟨by rfl, ?_⟩) ?_ ?_; rotate_left; (· intro w'; go_simp; first | done | with_reducible rfl); rotate_left; (· simp only [Act.put, List.setIfInBounds_toArray, List.set_cons_zero, List.set_cons_succ, i64_w, i32_w]; rfl)
      refine pure_ (i := 2) (N := some 58) (v := ?_) (a' := ?_) (bs 16 7) rfl rfl (by kernel_rfl) (fun _ _ _ h => h) (Or.inl ⟨by rfl, ?_⟩) ?_ ?_; rotate_left; (· intro w'; go_simp; first | done | with_reducible rfl); rotate_left; (· simp only [Act.put, List.setIfInBounds_toArray, List.set_cons_zero, List.set_cons_succ, i64_w, i32_w]; rfl)
      refine pure_ (i := 3) (N := some 59) (v := ?_) (a' := ?_) (bs 16 15) rfl rfl (by kernel_rfl) (fun _ _ _ h => h) (Or.inl ⟨by rfl, ?_⟩) ?_ ?_; rotate_left; (· intro w'; go_simp; first | done | with_reducible rfl); rotate_left; (· simp only [Act.put, List.setIfInBounds_toArray, List.set_cons_zero, List.set_cons_succ, i64_w, i32_w]; rfl)
      refine pure_ (i := 5) (N := some 61) (v := ?_) (a' := ?_) (bs 16 47) rfl rfl (by kernel_rfl) (fun _ _ _ h => h) (Or.inl ⟨by rfl, ?_⟩) ?_ ?_; rotate_left; (· intro w'; go_simp; first | done | with_reducible rfl); rotate_left; (· simp only [Act.put, List.setIfInBounds_toArray, List.set_cons_zero, List.set_cons_succ, i64_w, i32_w]; rfl)
      refine pure_ (i := 6) (N := some 62) (v := ?_) (a' := ?_) (bs 16 111) rfl rfl (by kernel_rfl) (fun _ _ _ h => h) (Or.inl ⟨by rfl, ?_⟩) ?_ ?_; rotate_left; (· intro w'; go_simp; first | done | with_reducible rfl); rotate_left; (· simp only [Act.put, List.setIfInBounds_toArray, List.set_cons_zero, List.set_cons_succ, i64_w, i32_w]; rfl)
      refine pure_ (i := 7) (N := some 63) (v := ?_) (a' := ?_) (bs 16 239) rfl rfl (by kernel_rfl) (fun _ _ _ h => h) (Or.inl ⟨by rfl, ?_⟩) ?_ ?_; rotate_left; (· intro w'; go_simp; first | done | with_reducible rfl); rotate_left; (· simp only [Act.put, List.setIfInBounds_toArray, List.set_cons_zero, List.set_cons_succ, i64_w, i32_w]; rfl)
      refine pure_ (i := 9) (N := some 65) (v := ?_) (a' := ?_) (bs 16 751) rfl rfl (by kernel_rfl) (fun _ _ _ h => h) (Or.inl ⟨by rfl, ?_⟩) ?_ ?_; rotate_left; (· intro w'; go_simp; first | done | with_reducible rfl); rotate_left; (· simp only [Act.put, List.setIfInBounds_toArray, List.set_cons_zero, List.set_cons_succ, i64_w, i32_w]; rfl)
      refine pure_ (i := 10) (N := some 66) (v := ?_) (a' := ?_) (bs 16 1775) rfl rfl (by kernel_rfl) (fun _ _ _ h => h) (Or.inl ⟨by rfl, ?_⟩) ?_ ?_; rotate_left; (· intro w'; go_simp; first | done | with_reducible rfl); rotate_left; (· simp only [Act.put, List.setIfInBounds_toArray, List.set_cons_zero, List.set_cons_succ, i64_w, i32_w]; rfl)
      refine pure_ (i := 11) (N := some 67) (v := ?_) (a' := ?_) (bs 16 3823) rfl rfl (by kernel_rfl) (fun _ _ _ h => h) (Or.inl ⟨by rfl, ?_⟩) ?_ ?_; rotate_left; (· intro w'; go_simp; first | done | with_reducible rfl); rotate_left; (· simp only [Act.put, List.setIfInBounds_toArray, List.set_cons_zero, List.set_cons_succ, i64_w, i32_w]; rfl)
      refine take_ (i := 4) (N := some 60) (v := ?_) (a' := ?_) (bs 16 3839) rfl rfl (by kernel_rfl) (fun _ _ _ h => h) (Or.inl ⟨by rfl, ?_⟩) hHeld ?_ ?_; rotate_left; (· rintro w' ⟨s0, s1, s2⟩; go_simp; first | done | with_reducible rfl); rotate_left; (· simp only [Act.put, List.setIfInBounds_toArray, List.set_cons_zero, List.set_cons_succ, i64_w, i32_w]; rfl)
      refine take_ (i := 8) (N := some 64) (v := ?_) (a' := ?_) (bs 16 4095) rfl rfl (by kernel_rfl) (fun _ _ _ h => h) (Or.inl ⟨by rfl, ?_⟩) hHeld ?_ ?_; rotate_left; (· rintro w' ⟨s0, s1, s2⟩; go_simp; first | done | with_reducible rfl); rotate_left; (· simp only [Act.put, List.setIfInBounds_toArray, List.set_cons_zero, List.set_cons_succ, i64_w, i32_w]; rfl)
      refine take_ (i := 12) (N := some 68) (v := ?_) (a' := ?_) (bs 16 8191) rfl rfl (by kernel_rfl) (fun _ _ _ h => h) (Or.inl ⟨by rfl, ?_⟩) hHeld ?_ ?_; rotate_left; (· rintro w' ⟨s0, s1, s2⟩; go_simp; first | done | with_reducible rfl); rotate_left; (· simp only [Act.put, List.setIfInBounds_toArray, List.set_cons_zero, List.set_cons_succ, i64_w, i32_w]; rfl)
      refine one_ (i := 13) (N := some 69) (bs 16 16383) rfl rfl (by kernel_rfl) (by decide) (fun K hK => ?_)
      refine goes_ Try.func114 (by kernel_rfl) rfl #[.slice Ab lb.length ccb, .slice Aa la.length cca] (by rfl) rfl rfl (by simp only [List.map_toArray, List.map_cons, List.map_nil]; rfl) ?_
      with_reducible refine (sub_n Ab ccb lb Aa cca la _ hcb (Kd.C_drew rb) hca (Kd.C_drew ra) cb ca (by omega) (Int.le_of_lt HLE.out)).mono ?_
      rintro e w1 ⟨v, r, rfl, hM, hc, hv, hn, hb⟩
      refine ⟨_, rfl, ?_⟩
      have hb' := below_drew' hb
      refine hK.out _ _ ⟨(sb.below hb').cell0, (sb.below hb').cell1, (sa.below hb').cell1⟩ (fun hHeld => ?_)
      clear hK K
      refine norm_ (a' := ?_) ?_ ?_; rotate_left; (· show Act.put _ (some 69) _ = _; simp only [Act.put, List.setIfInBounds_toArray, List.set_cons_zero, List.set_cons_succ, i64_w, i32_w]; rfl)
      refine last_ (i := 14) (N := some 70) (bs 16 32767) rfl rfl (by kernel_rfl) (by decide) (fun K hK => ?_)
      refine goes_ Try.func102 (by kernel_rfl) rfl #[.pointer (some ⟨gx, ox, none⟩), .bool negb, v] (by rfl) rfl rfl (by simp only [List.map_toArray, List.map_cons, List.map_nil]; rfl) ?_
      with_reducible refine (set_n gx ox v r negb (nm + 1) w1 (hx.below hb') hM hc (by omega)).mono ?_
      rintro e w2 ⟨rfl, hw, hN⟩
      refine ⟨_, rfl, ?_⟩
      refine hK.out _ _ ?_
      clear hK K
      refine norm_ (a' := ?_) ?_ ?_; rotate_left; (· show Act.put _ (some 70) _ = _; simp only [Act.put, List.setIfInBounds_toArray, List.set_cons_zero, List.set_cons_succ, i64_w, i32_w]; rfl)
      refine pure_ (i := 15) (N := some 6) (v := ?_) (a' := ?_) (bs 16 65535) rfl rfl (by kernel_rfl) (fun _ _ _ h => h) (Or.inl ⟨by rfl, ?_⟩) ?_ ?_; rotate_left; (· intro w'; go_simp; first | done | with_reducible rfl); rotate_left; (· simp only [Act.put, List.setIfInBounds_toArray, List.set_cons_zero, List.set_cons_succ, i64_w, i32_w]; rfl)
      refine done_ (by kernel_rfl) ?_
      have HN := Aside0.mk hN
      have HV := Aside0.mk hv
      clear hN hv
      go_wp2
      go_ret
      refine ⟨rfl, (Wrote.of_below ((hB.trans (hb2.mono hB.size)).trans (hb'.mono (hB.trans (hb2.mono hB.size)).size)) gx ox).trans hw, ?_⟩
      have h1 := HN.out
      rw [HV.out, HZ.out] at h1
      exact h1
end Go.Proofs.Ytdginjpppgfdaaa.Nb

namespace Go.Proofs.Ytdginjpppgfdaaa.Ns
open Go.RowKit Go Go.Proofs.YtdginjpppgfdaaaW.PrintWords Go.Proofs.YtdginjpppgfdaaaW.PrintLast Go.Proofs.YtdginjpppgfdaaaW.PrintMore Go.Proofs.Ytdginjpppgfdaaa.Ml Go.Proofs.Ytdginjpppgfdaaa.Mn Go.Proofs.Ytdginjpppgfdaaa.Nd Go.Proofs.Ytdginjpppgfdaaa.P Go.Proofs.Ytdginjpppgfdaaa.Nc
set_option linter.unusedVariables false
set_option linter.unusedSimpArgs false

theorem wraps_u64 (n : Int) (h0 : 0 ≤ n) (h1 : n < 2 ^ 64) : IntKind.u64.wrap n = n := by
  rw [u64m]
  omega
theorem or_high (x y : Int) (i : Nat) (hx0 : 0 ≤ x) (hx : x % 2 ^ i = 0) (hx1 : x < 18446744073709551616) (hy0 : 0 ≤ y) (hy : y < 2 ^ i) (hy1 : y < 18446744073709551616) : bits .or .u64 x y = x + y :=
  bits_join .u64 64 (by decide) wraps_u64 i x y hx0 hx (by omega) hy0 hy (by omega)
theorem or_low (c y : Int) (i : Nat) (hx0 : 0 ≤ y) (hx : y % 2 ^ i = 0) (hx1 : y < 18446744073709551616) (hy0 : 0 ≤ c) (hy : c < 2 ^ i) (hy1 : c < 18446744073709551616) : bits .or .u64 c y = c + y := by
  have h := or_high y c i hx0 hx hx1 hy0 hy hy1
  obtain ⟨a, rfl⟩ := Int.eq_ofNat_of_zero_le hx0
  obtain ⟨b, rfl⟩ := Int.eq_ofNat_of_zero_le hy0
  have ha : a < 2 ^ 64 := by omega
  have hb : b < 2 ^ 64 := by omega
  rw [(bits_nat .u64 64 (by decide) wraps_u64 a b ha hb).2] at h
  rw [(bits_nat .u64 64 (by decide) wraps_u64 b a hb ha).2, Nat.or_comm, h]
  omega
structure ShI (x : List Int) (p : Int) (i : Nat) (c : Int) (out : List Int) : Prop where
  c0 : 0 ≤ c
  c1 : c < p
  dg : Dg 4294967296 out
  len : out.length = x.length + 1
  val : dv 4294967296 out + c * pw 4294967296 i = dv 4294967296 (x.take i) * p
  zero : ∀ m, i ≤ m → out.getD m 0 = 0
theorem ShI.start (x : List Int) (p : Int) (hp : 0 < p) : ShI x p 0 0 (List.replicate (x.length + 1) 0) :=
  ⟨by omega, hp, Dg.replicate (by decide) _, by simp, by rw [dv_replicate]; simp [dv], fun m _ => by
    rw [List.getD_eq_getElem?_getD, List.getElem?_replicate]
    split <;> rfl⟩
theorem sh_num {c x p : Int} (c0 : 0 ≤ c) (c1 : c < p) (hp : p ≤ 4294967296) (x0 : 0 ≤ x) (x1 : x < 4294967296) : 0 ≤ c + x * p ∧ c + x * p < p * 4294967296 := by
  have h1 : 0 ≤ x * p := Int.mul_nonneg x0 (by omega)
  have h2 : x * p ≤ 4294967295 * p := Int.mul_le_mul_of_nonneg_right (by omega) (by omega)
  omega
theorem ShI.step {x : List Int} {p : Int} {i : Nat} {c : Int} {out : List Int} (h : ShI x p i c out) (hx : Dg 4294967296 x) (hp : p ≤ 4294967296) (hi : i < x.length) :
    ShI x p (i + 1) ((c + x.getD i 0 * p) / 4294967296) (out.set i ((c + x.getD i 0 * p) % 4294967296)) := by
  have h1 := hx.getD (by decide) i
  have h3 := h.c0
  have h4 := h.c1
  have h2 := sh_num h3 h4 hp h1.1 h1.2
  obtain ⟨s, hs⟩ : ∃ s, s = c + x.getD i 0 * p := ⟨_, rfl⟩
  rw [← hs] at h2 ⊢
  refine ⟨by omega, by omega, h.dg.set _ (by omega) (by omega), by simpa using h.len, ?_, fun m hm => by rw [getD_set (by omega)]; exact h.zero m (by omega)⟩
  have h5 := h.val
  rw [dv_set _ _ _ _ (by have := h.len; omega), h.zero i (Nat.le_refl _), dv_take_succ', pw_succ]
  have h6 : s % 4294967296 = s - 4294967296 * (s / 4294967296) := by omega
  rw [h6]
  generalize s / 4294967296 = q
  rw [hs]
  grind
theorem ShI.done {x : List Int} {p : Int} {c : Int} {out : List Int} (h : ShI x p x.length c out) (hp : p ≤ 4294967296) : Dg 4294967296 (out.set x.length c) ∧ dv 4294967296 (out.set x.length c) = dv 4294967296 x * p ∧ (out.set x.length c).length = x.length + 1 ∧ (out.set x.length c).getD x.length 0 < p := by
  have h1 := h.val
  have h3 := h.c0
  have h4 := h.c1
  rw [List.take_of_length_le (Nat.le_refl _)] at h1
  refine ⟨h.dg.set _ (by omega) (by omega), ?_, by simpa using h.len, ?_⟩
  · rw [dv_set _ _ _ _ (by have := h.len; omega), h.zero _ (Nat.le_refl _)]
    rw [← h1]
    grind
  · rw [getD_set_self (by have := h.len; omega)]
    exact h4

set_option maxHeartbeats 4000000 in
set_option maxRecDepth 100000 in
theorem shift_n (Ax : Option Addr) (cx : Nat) (x : List Int) (b : Nat) (w : World) (hcx : x.length ≤ cx) (HX : Kd.C (Kd.int .u32) w Ax x.length x) (hd : Dg 4294967296 x) (hn : x.length ≤ 1000000) (hb : b ≤ 31) :
    Calls Try.prog 118 #[.slice Ax x.length cx, .int .i64 (b : Int)] w fun e w' => ∃ g c r, w.heap.size ≤ g ∧ e = .returned (.slice (some ⟨g, 0, none⟩) (x.length + 1) c) ∧ Kd.R (Kd.int .u32) 122 w' w.heap.size (fun _ => True) (.slice (some ⟨g, 0, none⟩) (x.length + 1) c) r ∧ Dg 4294967296 r ∧ r.length = x.length + 1 ∧ dv 4294967296 r = dv 4294967296 x * 2 ^ b ∧ r.getD x.length 0 < 2 ^ b ∧ Below w.heap.size w w' := by
  have hp0 : (0 : Int) < 2 ^ b := Int.pow_pos (by decide)
  have hp1 : (2 : Int) ^ b ≤ 2147483648 := by
    have : b = 0 ∨ b = 1 ∨ b = 2 ∨ b = 3 ∨ b = 4 ∨ b = 5 ∨ b = 6 ∨ b = 7 ∨ b = 8 ∨ b = 9 ∨ b = 10 ∨ b = 11 ∨ b = 12 ∨ b = 13 ∨ b = 14 ∨ b = 15 ∨ b = 16 ∨ b = 17 ∨ b = 18 ∨ b = 19 ∨ b = 20 ∨ b = 21 ∨ b = 22 ∨ b = 23 ∨ b = 24 ∨ b = 25 ∨ b = 26 ∨ b = 27 ∨ b = 28 ∨ b = 29 ∨ b = 30 ∨ b = 31 := by omega
    rcases this with h | h | h | h | h | h | h | h | h | h | h | h | h | h | h | h | h | h | h | h | h | h | h | h | h | h | h | h | h | h | h | h <;> subst h <;> decide
  obtain ⟨p, hp⟩ : ∃ p : Int, p = 2 ^ b := ⟨_, rfl⟩
  rw [← hp] at hp0 hp1 ⊢
  have HP := Aside0.mk hp
  have HXa := Aside0.mk HX
  have HD := Aside0.mk hd
  clear hp HX hd
  have hlen : 0 ≤ (x.length : Int) + 1 := by omega
  go_enter Try.func118, Try.ntmps118
  go_wp2_with ((with_reducible refine gate_dst (N := 12) rfl ?_); refine Kd.R_make (Kd.int .u32) _ 122 rfl (N := 12) rfl 78 _ _ rfl ((x.length : Int) + 1) rfl rfl Try.underlying78 (.int .u32 0) 4 info122 rfl (by decide) (by omega) 0 (ok := fun _ => True) (okp := fun _ => True) rfl (fun _ hk => hk) trivial hlen (by omega) (Below.refl _ _) (Nat.le_refl _) ?_; intro v w5 ho hb hg_ hnew_; clear hg_ hnew_; have HO := Aside0.mk ho; have HB := Aside0.mk hb; clear ho hb)
  obtain ⟨go, co, eo, gb, _, _⟩ := Kd.R_form HO.out (by simp)
  have eo2 : v = .slice (some ⟨go, 0, none⟩) (x.length + 1) co := by rw [eo]; simp
  have HO2 := Aside0.mk (show ∃ out, ShI x p 0 0 out ∧ Kd.R (Kd.int .u32) 122 w5 w.heap.size (fun _ => True) (.slice (some ⟨go, 0, none⟩) (x.length + 1) co) out from ⟨_, ShI.start x p hp0, by have := HO.out; rw [eo2] at this; simpa using this⟩)
  subst eo2
  clear HO eo
  go_loopg [6, 15] x.length (fun kq v6 v15 w' => ∃ (i : Nat) (c : Int) (out : List Int), v6 = .int .u64 c ∧ v15 = .int .i64 (i : Int) ∧ Aside0 (i + kq = x.length) ∧ Aside0 (ShI x p i c out) ∧ Aside0 (Kd.R (Kd.int .u32) 122 w' w.heap.size (fun _ => True) (.slice (some ⟨go, 0, none⟩) (x.length + 1) co) out) ∧ Aside0 (Below w.heap.size w w'))
  case atStart =>
    obtain ⟨out, h1, h2⟩ := HO2.out
    exact ⟨0, 0, out, rfl, rfl, ⟨by omega⟩, ⟨h1⟩, ⟨h2⟩, HB⟩
  case round =>
    clear HO2 HB
    obtain ⟨i, c, out, rfl, rfl, HK, HI, HO, HB⟩ := hrel
    cases gk with
    | zero =>
      have hi : i = x.length := HK.out
      have hb0 : decide (i < x.length) = false := decide_eq_false (by omega)
      obtain ⟨hy1, hz1⟩ := own_cell HO.out x.length (by omega)
      have hc0 := HI.out.c0
      have hc1 := HI.out.c1
      have HI2 := Aside0.mk hi
      have HF := Aside0.mk ((show ShI x p x.length c out from HI2.out ▸ HI.out).done (by omega))
      clear hi
      go_wp2_with fail
      refine bodyPost_ret (v := .slice (some ⟨go, 0, none⟩) (x.length + 1) co) (by simp [results, Try.results118, go_sem]) rfl ?_
      exact ⟨go, co, out.set x.length c, gb, rfl, own_put HO.out x.length c, HF.out.1, HF.out.2.2.1, HF.out.2.1, HF.out.2.2.2, HB.out.setCell gb _⟩
    | succ k1 =>
      have hi : i < x.length := by have := HK.out; omega
      have hb0 : decide (i < x.length) = true := decide_eq_true hi
      obtain ⟨adx, ex, hxc⟩ := mag_cell HXa.out HB.out i hi
      obtain ⟨hy1, hz1⟩ := own_cell HO.out i (by omega)
      have hdx := HD.out.getD (by decide) i
      have hc0 := HI.out.c0
      have hc1 := HI.out.c1
      cases ex
      have hst := HI.out.step HD.out (by omega) hi
      generalize hxi : x.getD i 0 = xi at hxc hdx hst
      have HT := Aside0.mk hst
      obtain ⟨hdx0, hdx1⟩ := hdx
      clear hst hxi
      have hbit : bits BinOp.or IntKind.u64 c (IntKind.u64.wrap (xi * 2 ^ b)) = c + xi * p := by
        have h2 := sh_num hc0 hc1 (by omega) hdx0 hdx1
        have h3 : p * 4294967296 ≤ 2147483648 * 4294967296 := Int.mul_le_mul_of_nonneg_right hp1 (by decide)
        have h4 : 0 ≤ xi * p := Int.mul_nonneg hdx0 (by omega)
        rw [← HP.out, u64 (x := xi * p) h4 (by omega)]
        refine or_low c (xi * p) b h4 ?_ (by omega) hc0 (by rw [← HP.out]; exact hc1) (by omega)
        rw [← HP.out]
        exact Int.mul_emod_left _ _
      have HBI := Aside0.mk hbit
      clear hbit
      go_wp2_with fail
      go_roundg k1
      case measure => omega
      case rel =>
        rw [← HBI.out] at HT
        exact ⟨i + 1, _, _, rfl, by simp, ⟨by have := HK.out; omega⟩, HT, ⟨own_put HO.out i _⟩, ⟨HB.out.setCell gb _⟩⟩
theorem shift_m (Ax : Option Addr) (cx : Nat) (x : List Int) (m : Nat) (hm : x.length = m) (b : Nat) (w : World) (hcx : m ≤ cx) (HX : Kd.C (Kd.int .u32) w Ax m x) (hd : Dg 4294967296 x) (hn : m ≤ 1000000) (hb : b ≤ 31) :
    Calls Try.prog 118 #[.slice Ax m cx, .int .i64 (b : Int)] w fun e w' => ∃ g c r, w.heap.size ≤ g ∧ e = .returned (.slice (some ⟨g, 0, none⟩) (m + 1) c) ∧ Kd.R (Kd.int .u32) 122 w' w.heap.size (fun _ => True) (.slice (some ⟨g, 0, none⟩) (m + 1) c) r ∧ Dg 4294967296 r ∧ r.length = m + 1 ∧ dv 4294967296 r = dv 4294967296 x * 2 ^ b ∧ r.getD m 0 < 2 ^ b ∧ Below w.heap.size w w' := by
  subst hm
  exact shift_n Ax cx x b w hcx HX hd hn hb
end Go.Proofs.Ytdginjpppgfdaaa.Ns

namespace Go.Proofs.Ytdginjpppgfdaaa.Nk
open Go.Proofs.YtdginjpppgfdaaaW.PrintWords Go.Proofs.Ytdginjpppgfdaaa.Ml Go.Proofs.Ytdginjpppgfdaaa.Mn
open Go.RowKit (wrap64)
set_option linter.unusedVariables false

theorem mul_mono {a b c d : Int} (h1 : a ≤ b) (h2 : c ≤ d) (h3 : 0 ≤ c) (h4 : 0 ≤ b) : a * c ≤ b * d := Int.le_trans (Int.mul_le_mul_of_nonneg_right h1 h3) (Int.mul_le_mul_of_nonneg_left h2 h4)
theorem lt_of_mul {a b c : Int} (h : a * c < b * c) (hc : 0 < c) : a < b := Int.lt_of_mul_lt_mul_right h (Int.le_of_lt hc)

/-- Numbers at hand: the divisor v1, v2, rest; the dividend top, u2, rest; M the power below. -/
structure Kn (v1 v2 vl top u2 ul M : Int) : Prop where
  m : 0 < M
  v1a : 2147483648 ≤ v1
  v1b : v1 < 4294967296
  v2a : 0 ≤ v2
  v2b : v2 < 4294967296
  vla : 0 ≤ vl
  vlb : vl < M
  ta : 0 ≤ top
  tb : top < 18446744073709551616
  u2a : 0 ≤ u2
  u2b : u2 < 4294967296
  ula : 0 ≤ ul
  ulb : ul < M
  lt : (top * 4294967296 + u2) * M + ul < ((v1 * 4294967296 + v2) * M + vl) * 4294967296
section
variable {v1 v2 vl top u2 ul M q r : Int}
theorem Kn.top_le (h : Kn v1 v2 vl top u2 ul M) : top < v1 * 4294967296 + 4294967296 := by
  have h1 := h.lt
  have h2 := h.m
  have hv1a := h.v1a
  have hv1b := h.v1b
  have hv2b := h.v2b
  have hvlb := h.vlb
  have hula := h.ula
  have hu2a := h.u2a
  refine Int.lt_of_not_ge fun hc => ?_
  have h3 : (v1 * 4294967296 + 4294967296) * 4294967296 ≤ top * 4294967296 + u2 := by omega
  have h4 := Int.mul_le_mul_of_nonneg_right h3 (Int.le_of_lt h2)
  have h5 : (v1 * 4294967296 + v2 + 1) * M ≤ (v1 * 4294967296 + 4294967296) * M := Int.mul_le_mul_of_nonneg_right (by omega) (Int.le_of_lt h2)
  have h6 : (v1 * 4294967296 + 4294967296) * 4294967296 * M = (v1 * 4294967296 + 4294967296) * M * 4294967296 := by grind
  have h7 : (v1 * 4294967296 + v2 + 1) * M = (v1 * 4294967296 + v2) * M + M := by grind
  generalize (v1 * 4294967296 + v2) * M = A at *
  generalize (v1 * 4294967296 + 4294967296) * M = C at *
  generalize (top * 4294967296 + u2) * M = D at *
  omega
/-- The quotient, Q: what is to be found. -/
structure Qt (v1 v2 vl top u2 ul M Q : Int) : Prop where
  q0 : 0 ≤ Q
  lo : Q * ((v1 * 4294967296 + v2) * M + vl) ≤ (top * 4294967296 + u2) * M + ul
  hi : (top * 4294967296 + u2) * M + ul < (Q + 1) * ((v1 * 4294967296 + v2) * M + vl)
theorem Kn.v_pos (h : Kn v1 v2 vl top u2 ul M) : 0 < (v1 * 4294967296 + v2) * M + vl := by
  have h1 := h.v1a
  have h2 := h.v2a
  have h3 := h.vla
  have := Int.mul_pos (show 0 < v1 * 4294967296 + v2 by omega) h.m
  omega
theorem Kn.u_nn (h : Kn v1 v2 vl top u2 ul M) : 0 ≤ (top * 4294967296 + u2) * M + ul := by
  have h1 := h.ta
  have h2 := h.u2a
  have h3 := h.ula
  have := Int.mul_nonneg (show 0 ≤ top * 4294967296 + u2 by omega) (Int.le_of_lt h.m)
  omega
theorem Kn.qt (h : Kn v1 v2 vl top u2 ul M) : Qt v1 v2 vl top u2 ul M (((top * 4294967296 + u2) * M + ul) / ((v1 * 4294967296 + v2) * M + vl)) := by
  exact ⟨Int.ediv_nonneg h.u_nn (Int.le_of_lt h.v_pos), Int.ediv_mul_le _ (Int.ne_of_gt h.v_pos), Int.lt_ediv_add_one_mul_self _ h.v_pos⟩
theorem Kn.q_lt (h : Kn v1 v2 vl top u2 ul M) {Q : Int} (hq : Qt v1 v2 vl top u2 ul M Q) : Q < 4294967296 := by
  have h1 := h.lt
  have h2 := hq.lo
  have hv := h.v_pos
  generalize (v1 * 4294967296 + v2) * M + vl = V at *
  refine lt_of_mul (c := V) ?_ hv
  rw [Int.mul_comm 4294967296 V]
  omega
theorem Kn.first (h : Kn v1 v2 vl top u2 ul M) {Q : Int} (hq : Qt v1 v2 vl top u2 ul M Q) : Q ≤ top / v1 := by
  have h1 := hq.lo
  have h2 := h.m
  have h3 : Q * (v1 * 4294967296 * M) ≤ Q * ((v1 * 4294967296 + v2) * M + vl) := by
    refine Int.mul_le_mul_of_nonneg_left ?_ hq.q0
    have h4 : v1 * 4294967296 * M ≤ (v1 * 4294967296 + v2) * M := Int.mul_le_mul_of_nonneg_right (by have := h.v2a; omega) (Int.le_of_lt h2)
    have := h.vla
    omega
  have h4 : (top * 4294967296 + u2) * M + ul < (top + 1) * 4294967296 * M := by
    have h5 : (top * 4294967296 + u2 + 1) * M ≤ (top + 1) * 4294967296 * M := Int.mul_le_mul_of_nonneg_right (by have := h.u2b; omega) (Int.le_of_lt h2)
    have h6 : (top * 4294967296 + u2 + 1) * M = (top * 4294967296 + u2) * M + M := by grind
    have := h.ulb
    omega
  have h5 : Q * v1 * (4294967296 * M) < (top + 1) * (4294967296 * M) := by
    have e1 : Q * v1 * (4294967296 * M) = Q * (v1 * 4294967296 * M) := by grind
    have e2 : (top + 1) * (4294967296 * M) = (top + 1) * 4294967296 * M := by grind
    omega
  have h6 := lt_of_mul h5 (by omega)
  exact (Int.le_ediv_iff_mul_le (by have := h.v1a; omega)).2 (by omega)
/-- A guess that is too great, or fails the test with the second digits, is above the quotient. -/
theorem Kn.step (h : Kn v1 v2 vl top u2 ul M) {Q : Int} (hq : Qt v1 v2 vl top u2 ul M Q) (hqr : q * v1 + r = top) (h0 : Q ≤ q) (ht : 4294967296 ≤ q ∨ r * 4294967296 + u2 < q * v2) : Q ≤ q - 1 := by
  rcases ht with ht | ht
  · have := h.q_lt hq
    omega
  · have hq0 := hq.q0
    have h1 := h.m
    have h2 : q * (v1 * 4294967296 + v2) ≥ top * 4294967296 + u2 + 1 := by
      have e : q * (v1 * 4294967296 + v2) = (q * v1) * 4294967296 + q * v2 := by grind
      rw [e]
      generalize q * v2 = a at *
      generalize q * v1 = b at *
      omega
    have h3 : (top * 4294967296 + u2 + 1) * M ≤ q * (v1 * 4294967296 + v2) * M := Int.mul_le_mul_of_nonneg_right h2 (Int.le_of_lt h1)
    have h4 : q * (v1 * 4294967296 + v2) * M ≤ q * ((v1 * 4294967296 + v2) * M + vl) := by
      have e : q * ((v1 * 4294967296 + v2) * M + vl) = q * (v1 * 4294967296 + v2) * M + q * vl := by grind
      have := Int.mul_nonneg (show 0 ≤ q by omega) h.vla
      omega
    have h5 : (top * 4294967296 + u2 + 1) * M = (top * 4294967296 + u2) * M + M := by grind
    have h6 := hq.lo
    have h7 := h.ulb
    have hv := h.v_pos
    generalize (v1 * 4294967296 + v2) * M + vl = V at *
    have h8 : Q * V < q * V := by omega
    have := lt_of_mul h8 hv
    omega
/-- A guess that passes is at most one too great. -/
theorem Kn.pass (h : Kn v1 v2 vl top u2 ul M) {Q : Int} (hq : Qt v1 v2 vl top u2 ul M Q) (hqr : q * v1 + r = top) (h0 : Q ≤ q) (h1 : q < 4294967296) (hr : 0 ≤ r) (ht : 4294967296 ≤ r ∨ q * v2 ≤ r * 4294967296 + u2) : q ≤ Q + 1 := by
  have hq0 := hq.q0
  have h2 : q * (v1 * 4294967296 + v2) ≤ top * 4294967296 + u2 := by
    have e : q * (v1 * 4294967296 + v2) = (q * v1) * 4294967296 + q * v2 := by grind
    have h3 : q * v2 ≤ r * 4294967296 + u2 := by
      rcases ht with ht | ht
      · have h4 : q * v2 ≤ 4294967295 * 4294967295 := mul_mono (by omega) (by have := h.v2b; omega) h.v2a (by omega)
        have := h.u2a
        omega
      · exact ht
    rw [e]
    generalize q * v2 = a at *
    generalize q * v1 = b at *
    omega
  refine Int.le_of_not_gt fun hc => ?_
  have h3 : (Q + 1) * ((v1 * 4294967296 + v2) * M + vl) ≤ (q - 1) * ((v1 * 4294967296 + v2) * M + vl) := Int.mul_le_mul_of_nonneg_right (by omega) (Int.le_of_lt h.v_pos)
  have h4 : (q - 1) * ((v1 * 4294967296 + v2) * M + vl) ≤ (q - 1) * ((v1 * 4294967296 + v2) * M + M) := Int.mul_le_mul_of_nonneg_left (by have := h.vlb; omega) (by omega)
  have h5 : (q - 1) * ((v1 * 4294967296 + v2) * M + M) = (q * (v1 * 4294967296 + v2) + (q - 1 - (v1 * 4294967296 + v2))) * M := by grind
  have h6 : (q * (v1 * 4294967296 + v2) + (q - 1 - (v1 * 4294967296 + v2))) * M ≤ (top * 4294967296 + u2) * M := Int.mul_le_mul_of_nonneg_right (by have := h.v1a; have := h.v2a; omega) (Int.le_of_lt h.m)
  have h7 := hq.hi
  have h8 := h.ula
  omega
theorem Kn.small (h : Kn v1 v2 vl top u2 ul M) (hqr : q * v1 + r = top) (hr : 4294967296 ≤ r) : q < 4294967296 := by
  have h1 := h.top_le
  have h2 := h.v1a
  refine lt_of_mul (c := v1) ?_ (by omega)
  rw [Int.mul_comm 4294967296 v1]
  omega
/-- What is left, once a guess of the two has been taken. -/
theorem Kn.left (h : Kn v1 v2 vl top u2 ul M) {Q : Int} (hq : Qt v1 v2 vl top u2 ul M Q) (h0 : Q ≤ q) (h1 : q ≤ Q + 1) :
    -((v1 * 4294967296 + v2) * M + vl) ≤ (top * 4294967296 + u2) * M + ul - q * ((v1 * 4294967296 + v2) * M + vl) ∧ (top * 4294967296 + u2) * M + ul - q * ((v1 * 4294967296 + v2) * M + vl) < (v1 * 4294967296 + v2) * M + vl := by
  have h2 := hq.lo
  have h3 := hq.hi
  generalize (v1 * 4294967296 + v2) * M + vl = V at *
  generalize (top * 4294967296 + u2) * M + ul = U at *
  rcases (show q = Q ∨ q = Q + 1 by omega) with e | e
  · subst e
    rw [Int.add_mul] at h3
    omega
  · subst e
    rw [Int.add_mul] at h3 ⊢
    omega
end

/-! ### the digits of the two numbers -/
theorem dv_top (l : List Int) (n : Nat) (hl : l.length = n + 2) : dv 4294967296 l = (l.getD (n + 1) 0 * 4294967296 + l.getD n 0) * pw 4294967296 n + dv 4294967296 (l.take n) := by
  have h1 := dv_take_succ 4294967296 l (n + 1) (by omega)
  have h2 := dv_take_succ 4294967296 l n (by omega)
  rw [List.take_of_length_le (by omega), pw_succ] at h1
  rw [h1, h2]
  grind
theorem Kn.of (v u : List Int) (n : Nat) (hv : v.length = n + 2) (hu : u.length = n + 3) (dv_ : Dg 4294967296 v) (du : Dg 4294967296 u) (ht : 2147483648 ≤ v.getD (n + 1) 0) (hlt : dv 4294967296 u < dv 4294967296 v * 4294967296) :
    Kn (v.getD (n + 1) 0) (v.getD n 0) (dv 4294967296 (v.take n)) (u.getD (n + 2) 0 * 4294967296 + u.getD (n + 1) 0) (u.getD n 0) (dv 4294967296 (u.take n)) (pw 4294967296 n) ∧
    dv 4294967296 v = (v.getD (n + 1) 0 * 4294967296 + v.getD n 0) * pw 4294967296 n + dv 4294967296 (v.take n) ∧
    dv 4294967296 u = ((u.getD (n + 2) 0 * 4294967296 + u.getD (n + 1) 0) * 4294967296 + u.getD n 0) * pw 4294967296 n + dv 4294967296 (u.take n) := by
  have e1 := dv_top v n hv
  have e2 : dv 4294967296 u = ((u.getD (n + 2) 0 * 4294967296 + u.getD (n + 1) 0) * 4294967296 + u.getD n 0) * pw 4294967296 n + dv 4294967296 (u.take n) := by
    have h1 := dv_take_succ 4294967296 u (n + 2) (by omega)
    have h2 := dv_take_succ 4294967296 u (n + 1) (by omega)
    have h3 := dv_take_succ 4294967296 u n (by omega)
    rw [List.take_of_length_le (by omega), pw_succ, pw_succ] at h1
    rw [pw_succ] at h2
    rw [h1, h2, h3]
    grind
  have a1 := dv_.getD (by decide) (n + 1)
  have a2 := dv_.getD (by decide) n
  have a3 := du.getD (by decide) (n + 2)
  have a4 := du.getD (by decide) (n + 1)
  have a5 := du.getD (by decide) n
  have b1 := dv_nonneg (by decide) (dv_.take n)
  have b2 := dv_lt (by decide) (dv_.take n)
  have b3 := dv_nonneg (by decide) (du.take n)
  have b4 := dv_lt (by decide) (du.take n)
  rw [List.length_take, Nat.min_eq_left (by omega)] at b2 b4
  refine ⟨⟨pow_pos (by decide) n, ht, a1.2, a2.1, a2.2, b1, b2, by omega, by omega, a5.1, a5.2, b3, b4, ?_⟩, e1, e2⟩
  rw [← e1, ← e2]
  exact hlt
end Go.Proofs.Ytdginjpppgfdaaa.Nk

namespace Go.Proofs.Ytdginjpppgfdaaa.Ng
open Go.RowKit Go Go.Proofs.YtdginjpppgfdaaaW.PrintWords Go.Proofs.YtdginjpppgfdaaaW.PrintLast Go.Proofs.YtdginjpppgfdaaaW.PrintMore Go.Proofs.Ytdginjpppgfdaaa.Ml Go.Proofs.Ytdginjpppgfdaaa.Mn Go.Proofs.Ytdginjpppgfdaaa.Nd Go.Proofs.Ytdginjpppgfdaaa.P Go.Proofs.Ytdginjpppgfdaaa.Nc Go.Proofs.Ytdginjpppgfdaaa.Ns Go.Proofs.Ytdginjpppgfdaaa.Nk
set_option linter.unusedVariables false
set_option linter.unusedSimpArgs false

theorem getD_app {P Y Z : List Int} (i : Nat) (hi : i < Y.length) : (P ++ (Y ++ Z)).getD (P.length + i) 0 = Y.getD i 0 := by
  simp [List.getD_eq_getElem?_getD, List.getElem?_append_right (Nat.le_add_right _ _), List.getElem?_append_left hi]
theorem set_app {P Y Z : List Int} (i : Nat) (v : Int) (hi : i < Y.length) : (P ++ (Y ++ Z)).set (P.length + i) v = P ++ (Y.set i v ++ Z) := by
  rw [List.set_append_right _ _ (Nat.le_add_right _ _), Nat.add_sub_cancel_left, List.set_append_left _ _ hi]
/-- The two numbers in memory: the dividend's window behind P, the divisor. -/
structure Two (w0 W : World) (gu gv N cu n cv : Nat) (P Z Y V : List Int) : Prop where
  u : Kd.R (Kd.int .u32) 122 W 0 (fun _ => True) (.slice (some ⟨gu, 0, none⟩) N cu) (P ++ (Y ++ Z))
  v : Kd.R (Kd.int .u32) 122 W 0 (fun _ => True) (.slice (some ⟨gv, 0, none⟩) n cv) V
  g : w0.grownBy W (some gu)
theorem Two.drewN {w0 W : World} {gu gv N cu n cv : Nat} {P Z Y V : List Int} (h : Two w0 W gu gv N cu n cv P Z Y V) (m : Nat) : Two w0 (W.drewN m) gu gv N cu n cv P Z Y V :=
  ⟨Kd.R_drewN h.u m, Kd.R_drewN h.v m, h.g.trans (grown_of_below (pw_below_drewN (Below.refl _ _) m) _)⟩
theorem Two.ucell {w0 W : World} {gu gv N cu n cv : Nat} {P Z Y V : List Int} (h : Two w0 W gu gv N cu n cv P Z Y V) (i : Nat) (hi : i < Y.length) : W.cell? ⟨gu, P.length + i, none⟩ = some (.int .u32 (Y.getD i 0)) ∧ W.frozen? ⟨gu, P.length + i, none⟩ = false := by
  have h1 := Kd.R_reads' h.u
  have := own_cell h.u (P.length + i) (by rw [h1.1]; simp; omega)
  rwa [getD_app i hi] at this
theorem Two.vcell {w0 W : World} {gu gv N cu n cv : Nat} {P Z Y V : List Int} (h : Two w0 W gu gv N cu n cv P Z Y V) (i : Nat) (hi : i < n) : W.cell? ⟨gv, i, none⟩ = some (.int .u32 (V.getD i 0)) := (own_cell h.v i hi).1
theorem Two.put {w0 W : World} {gu gv N cu n cv : Nat} {P Z Y V : List Int} (h : Two w0 W gu gv N cu n cv P Z Y V) (hne : gv ≠ gu) (i : Nat) (hi : i < Y.length) (x : Int) : Two w0 (W.setCell ⟨gu, P.length + i, none⟩ (.int .u32 x)) gu gv N cu n cv P Z (Y.set i x) V := by
  refine ⟨?_, ?_, ?_⟩
  · have := own_put h.u (P.length + i) x
    rwa [set_app i x hi] at this
  · refine Kd.R_mono (ok := fun k => k = gv) (Kd.R_far (p := ⟨gu, P.length + i, none⟩) (Kd.R_mono (Kd.R_tight rfl h.v) (fun k hk => ?_)) (fun k hk => ?_) _) (fun _ _ => trivial)
    · simpa [Value.ownBlock] using hk
    · rw [hk]; exact hne
  · have := (Kd.R_putg h.u ((P.length + i : Nat) : Int) x).2
    rw [Int.toNat_natCast] at this
    exact h.g.trans this

/-- Where the guess stands. -/
structure GsI (V Y : List Int) (n : Nat) (Q q r : Int) : Prop where
  qr : q * V.getD (n + 1) 0 + r = Y.getD (n + 2) 0 * 4294967296 + Y.getD (n + 1) 0
  le : Q ≤ q
  r0 : 0 ≤ r
def GsP (V Y : List Int) (q : Int) : Prop := 0 ≤ q ∧ q < 4294967296 ∧ -dv 4294967296 V ≤ dv 4294967296 Y - q * dv 4294967296 V ∧ dv 4294967296 Y - q * dv 4294967296 V < dv 4294967296 V

abbrev KnO (V Y : List Int) (n : Nat) : Prop := Kn (V.getD (n + 1) 0) (V.getD n 0) (dv 4294967296 (V.take n)) (Y.getD (n + 2) 0 * 4294967296 + Y.getD (n + 1) 0) (Y.getD n 0) (dv 4294967296 (Y.take n)) (pw 4294967296 n)
abbrev QtO (V Y : List Int) (n : Nat) (Q : Int) : Prop := Qt (V.getD (n + 1) 0) (V.getD n 0) (dv 4294967296 (V.take n)) (Y.getD (n + 2) 0 * 4294967296 + Y.getD (n + 1) 0) (Y.getD n 0) (dv 4294967296 (Y.take n)) (pw 4294967296 n) Q
theorem GsI.next {V Y : List Int} {n : Nat} {Q q r : Int} (h : GsI V Y n Q q r) (hK : KnO V Y n) (hQ : QtO V Y n Q) (ht : 4294967296 ≤ q ∨ r * 4294967296 + Y.getD n 0 < q * V.getD n 0) : GsI V Y n Q (q - 1) (r + V.getD (n + 1) 0) ∧ 1 ≤ q := by
  have h1 := hK.step hQ h.qr h.le ht
  have h2 := hQ.q0
  refine ⟨⟨?_, h1, by have := h.r0; have := hK.v1a; omega⟩, by omega⟩
  have := h.qr
  rw [← this]
  grind
theorem GsI.done {V Y : List Int} {n : Nat} {Q q r : Int} (h : GsI V Y n Q q r) (hK : KnO V Y n) (hQ : QtO V Y n Q)
    (hS : dv 4294967296 V = (V.getD (n + 1) 0 * 4294967296 + V.getD n 0) * pw 4294967296 n + dv 4294967296 (V.take n) ∧ dv 4294967296 Y = ((Y.getD (n + 2) 0 * 4294967296 + Y.getD (n + 1) 0) * 4294967296 + Y.getD n 0) * pw 4294967296 n + dv 4294967296 (Y.take n))
    (ht : 4294967296 ≤ r ∨ (q < 4294967296 ∧ q * V.getD n 0 ≤ r * 4294967296 + Y.getD n 0)) : GsP V Y q := by
  have h2 := hQ.q0
  have h3 := h.le
  have h4 : q < 4294967296 := by
    rcases ht with ht | ht
    · exact hK.small h.qr ht
    · exact ht.1
  have h5 := hK.pass hQ h.qr h3 h4 h.r0 (ht.imp id And.right)
  have h6 := hK.left hQ h3 h5
  rw [← hS.1, ← hS.2] at h6
  exact ⟨by omega, h4, h6⟩
/-! ### the guess times the divisor is taken away -/
structure SbI (V Y0 : List Int) (q : Int) (i : Nat) (c b : Int) (Y : List Int) : Prop where
  c0 : 0 ≤ c
  c1 : c < 4294967296
  b0 : 0 ≤ b
  b1 : b ≤ 1
  dg : Dg 4294967296 Y
  len : Y.length = Y0.length
  val : dv 4294967296 (Y.take i) - (c + b) * pw 4294967296 i = dv 4294967296 (Y0.take i) - q * dv 4294967296 (V.take i)
  same : ∀ m, i ≤ m → Y.getD m 0 = Y0.getD m 0
theorem take_set {l : List Int} {i : Nat} {v : Int} : (l.set i v).take i = l.take i := by
  rw [List.take_set]
  exact List.set_eq_of_length_le (by simp; omega)
theorem dv_take_set {l : List Int} {i : Nat} {v : Int} (hi : i < l.length) : dv 4294967296 ((l.set i v).take (i + 1)) = dv 4294967296 (l.take i) + v * pw 4294967296 i := by
  rw [dv_take_succ', take_set, getD_set_self hi]
theorem sb_num {u x b : Int} (hu0 : 0 ≤ u) (hu1 : u < 4294967296) (hx : 0 ≤ x) (hb0 : 0 ≤ b) (hb1 : b ≤ 1) :
    ∃ r b', IntKind.u64.wrap (IntKind.u64.wrap (u - x % 4294967296) - b) % 4294967296 = r ∧ IntKind.u64.wrap (IntKind.u64.wrap (u - x % 4294967296) - b) / 9223372036854775808 = b' ∧ 0 ≤ r ∧ r < 4294967296 ∧ 0 ≤ b' ∧ b' ≤ 1 ∧ u - x % 4294967296 - b = r - 4294967296 * b' := by
  rw [u64m, u64m]
  exact ⟨_, _, rfl, rfl, by omega, by omega, by omega, by omega, by omega⟩
theorem SbI.step {V Y0 Y : List Int} {q c b : Int} {i : Nat} (h : SbI V Y0 q i c b Y) (hV : Dg 4294967296 V) (hq0 : 0 ≤ q) (hq1 : q < 4294967296) (hi : i < Y.length) :
    SbI V Y0 q (i + 1) ((c + q * V.getD i 0) / 4294967296) (IntKind.u64.wrap (IntKind.u64.wrap (Y.getD i 0 - (c + q * V.getD i 0) % 4294967296) - b) / 9223372036854775808)
      (Y.set i (IntKind.u64.wrap (IntKind.u64.wrap (Y.getD i 0 - (c + q * V.getD i 0) % 4294967296) - b) % 4294967296)) := by
  have h1 := hV.getD (by decide) i
  have h2 := h.dg.getD (by decide) i
  have h3 := mul_lt_sq hq0 hq1 h1.1 h1.2
  have c0 := h.c0
  have c1 := h.c1
  obtain ⟨x, hx⟩ : ∃ x, x = c + q * V.getD i 0 := ⟨_, rfl⟩
  rw [← hx]
  have hx0 : 0 ≤ x := by omega
  have hx1 : x ≤ 18446744069414584320 := by omega
  obtain ⟨r, b', hr, hb, r0, r1, b0, b1, he⟩ := sb_num h2.1 h2.2 hx0 h.b0 h.b1
  rw [hr, hb]
  refine ⟨by omega, by omega, b0, b1, h.dg.set _ r0 r1, by simpa using h.len, ?_, fun m hm => by rw [getD_set (by omega)]; exact h.same m (by omega)⟩
  rw [dv_take_set hi, dv_take_succ', dv_take_succ', pw_succ, ← h.same i (Nat.le_refl _)]
  have h4 := h.val
  have h5 : x % 4294967296 = x - 4294967296 * (x / 4294967296) := by omega
  rw [h5] at he
  generalize x / 4294967296 = xq at he ⊢
  generalize Y.getD i 0 = u at he ⊢
  generalize V.getD i 0 = y at hx ⊢
  have hr2 : r = u - x + 4294967296 * xq - b + 4294967296 * b' := by omega
  rw [hr2, hx]
  grind
/-! ### the divisor is added again -/
structure AbI (V Y1 : List Int) (i : Nat) (c : Int) (Y : List Int) : Prop where
  c0 : 0 ≤ c
  c1 : c ≤ 1
  dg : Dg 4294967296 Y
  len : Y.length = Y1.length
  val : dv 4294967296 (Y.take i) + c * pw 4294967296 i = dv 4294967296 (Y1.take i) + dv 4294967296 (V.take i)
  same : ∀ m, i ≤ m → Y.getD m 0 = Y1.getD m 0
theorem AbI.step {V Y1 Y : List Int} {c : Int} {i : Nat} (h : AbI V Y1 i c Y) (hV : Dg 4294967296 V) (hi : i < Y.length) :
    AbI V Y1 (i + 1) ((c + (Y.getD i 0 + V.getD i 0)) / 4294967296) (Y.set i ((c + (Y.getD i 0 + V.getD i 0)) % 4294967296)) := by
  have h1 := hV.getD (by decide) i
  have h2 := h.dg.getD (by decide) i
  have c0 := h.c0
  have c1 := h.c1
  obtain ⟨x, hx⟩ : ∃ x, x = c + (Y.getD i 0 + V.getD i 0) := ⟨_, rfl⟩
  rw [← hx]
  refine ⟨by omega, by omega, h.dg.set _ (by omega) (by omega), by simpa using h.len, ?_, fun m hm => by rw [getD_set (by omega)]; exact h.same m (by omega)⟩
  rw [dv_take_set hi, dv_take_succ', dv_take_succ', pw_succ, ← h.same i (Nat.le_refl _)]
  have h4 := h.val
  have h5 : x % 4294967296 = x - 4294967296 * (x / 4294967296) := by omega
  rw [h5]
  generalize x / 4294967296 = xq
  rw [hx]
  grind
/-! ### what comes of it -/
theorem SbI.top {V Y0 Y : List Int} {q c b : Int} {n : Nat} (h : SbI V Y0 q (n + 2) c b Y) (hV : V.length = n + 2) (hY : Y0.length = n + 3) :
    dv 4294967296 (Y.take (n + 2)) + (Y.getD (n + 2) 0 - c - b) * pw 4294967296 (n + 2) = dv 4294967296 Y0 - q * dv 4294967296 V := by
  have h1 := h.val
  have h2 := dv_take_succ' 4294967296 Y0 (n + 2)
  rw [List.take_of_length_le (show Y0.length ≤ n + 2 + 1 by omega)] at h2
  rw [List.take_of_length_le (show V.length ≤ n + 2 by omega)] at h1
  rw [h2, h.same (n + 2) (Nat.le_refl _)]
  grind
theorem SbI.two {V Y0 Y : List Int} {q c b : Int} {n : Nat} (h : SbI V Y0 q (n + 2) c b Y) (hV : V.length = n + 2) (hY : Y0.length = n + 3) (dV : Dg 4294967296 V) (hP : GsP V Y0 q) :
    (Y.getD (n + 2) 0 - c - b = 0 ∧ 0 ≤ dv 4294967296 Y0 - q * dv 4294967296 V) ∨ (Y.getD (n + 2) 0 - c - b = -1 ∧ dv 4294967296 Y0 - q * dv 4294967296 V < 0) := by
  have h1 := h.top hV hY
  have h2 := dv_nonneg (by decide) (h.dg.take (n + 2))
  have h3 := dv_lt (by decide) (h.dg.take (n + 2))
  have h4 := dv_lt (by decide) dV
  have h5 := pow_pos (B := 4294967296) (by decide) (n + 2)
  rw [List.length_take, Nat.min_eq_left (by have := h.len; omega)] at h3
  rw [hV] at h4
  have h6 := hP.2.2
  generalize dv 4294967296 Y0 - q * dv 4294967296 V = T at *
  generalize Y.getD (n + 2) 0 - c - b = e at *
  generalize dv 4294967296 (Y.take (n + 2)) = D at *
  generalize pw 4294967296 (n + 2) = M at *
  have h7 : e = 0 ∨ e = -1 ∨ 1 ≤ e ∨ e ≤ -2 := by omega
  rcases h7 with h7 | h7 | h7 | h7
  · subst h7
    left
    omega
  · subst h7
    right
    omega
  · have := Int.mul_le_mul_of_nonneg_right h7 (Int.le_of_lt h5)
    omega
  · have := Int.mul_le_mul_of_nonneg_right h7 (Int.le_of_lt h5)
    omega
theorem SbI.fin {V Y0 Y : List Int} {q c b : Int} {n : Nat} (h : SbI V Y0 q (n + 2) c b Y) (hV : V.length = n + 2) (hY : Y0.length = n + 3) (hP : GsP V Y0 q) (he : Y.getD (n + 2) 0 - c - b = 0) :
    (Y.set (n + 2) 0).length = n + 3 ∧ Dg 4294967296 (Y.set (n + 2) 0) ∧ dv 4294967296 Y0 = q * dv 4294967296 V + dv 4294967296 (Y.set (n + 2) 0) ∧ dv 4294967296 (Y.set (n + 2) 0) < dv 4294967296 V := by
  have h1 := h.top hV hY
  have h2 := dv_take_set (l := Y) (i := n + 2) (v := 0) (by have := h.len; omega)
  rw [List.take_of_length_le (by have := h.len; simp; omega)] at h2
  rw [he] at h1
  have h6 := hP.2.2
  refine ⟨by have := h.len; simp; omega, h.dg.set _ (by omega) (by omega), by omega, by omega⟩
theorem AbI.fin {V Y0 Y Y1 : List Int} {q c : Int} {n : Nat} (h : AbI V Y1 (n + 2) c Y) (hV : V.length = n + 2) (hY1 : Y1.length = n + 3) (hP : GsP V Y0 q) (hT : dv 4294967296 Y0 - q * dv 4294967296 V < 0) (h1 : dv 4294967296 (Y1.take (n + 2)) - pw 4294967296 (n + 2) = dv 4294967296 Y0 - q * dv 4294967296 V) :
    c = 1 ∧ (Y.set (n + 2) 0).length = n + 3 ∧ Dg 4294967296 (Y.set (n + 2) 0) ∧ dv 4294967296 Y0 = (q - 1) * dv 4294967296 V + dv 4294967296 (Y.set (n + 2) 0) ∧ dv 4294967296 (Y.set (n + 2) 0) < dv 4294967296 V := by
  have h2 := h.val
  rw [List.take_of_length_le (show V.length ≤ n + 2 by omega)] at h2
  have h3 := dv_take_set (l := Y) (i := n + 2) (v := 0) (by have := h.len; omega)
  rw [List.take_of_length_le (by have := h.len; simp; omega)] at h3
  have h4 := dv_lt (by decide) (h.dg.take (n + 2))
  rw [List.length_take, Nat.min_eq_left (by have := h.len; omega)] at h4
  have h6 := hP.2.2
  have c0 := h.c0
  have c1 := h.c1
  have hc : c = 1 := by
    rcases (show c = 0 ∨ c = 1 by omega) with e | e
    · rw [e] at h2
      omega
    · exact e
  rw [hc] at h2
  have e1 : (q - 1) * dv 4294967296 V = q * dv 4294967296 V - dv 4294967296 V := by grind
  refine ⟨hc, by have := h.len; simp; omega, h.dg.set _ (by omega) (by omega), by rw [e1]; omega, by omega⟩
def DigP (w0 : World) (gu gv N cu n cv : Nat) (P Z Y V : List Int) (e : Ending) (w' : World) : Prop := ∃ q Y', e = .returned (.int .u32 q) ∧ Two w0 w' gu gv N cu (n + 2) cv P Z Y' V ∧ Y'.length = n + 3 ∧ Dg 4294967296 Y' ∧ 0 ≤ q ∧ q < 4294967296 ∧ dv 4294967296 Y = q * dv 4294967296 V + dv 4294967296 Y' ∧ dv 4294967296 Y' < dv 4294967296 V
set_option maxHeartbeats 8000000 in
set_option maxRecDepth 100000 in
theorem digit_n (w0 W : World) (gu gv N cu cv n c2 : Nat) (P Z Y V : List Int) (hne : gv ≠ gu) (H2 : Two w0 W gu gv N cu (n + 2) cv P Z Y V) (hV : V.length = n + 2) (hY : Y.length = n + 3) (dV : Dg 4294967296 V) (dY : Dg 4294967296 Y) (htop : 2147483648 ≤ V.getD (n + 1) 0) (hlt : dv 4294967296 Y < dv 4294967296 V * 4294967296) (hn : n ≤ 1000000) (hP : P.length ≤ 1000000) :
    Calls Try.prog 122 #[.slice (some ⟨gu, P.length, none⟩) (n + 3) c2, .slice (some ⟨gv, 0, none⟩) (n + 2) cv] W (DigP w0 gu gv N cu n cv P Z Y V) := by
  obtain ⟨hK, eV, eY⟩ := Kn.of V Y n hV hY dV dY htop hlt
  obtain ⟨Q, hQ⟩ : ∃ Q, Qt (V.getD (n + 1) 0) (V.getD n 0) (dv 4294967296 (V.take n)) (Y.getD (n + 2) 0 * 4294967296 + Y.getD (n + 1) 0) (Y.getD n 0) (dv 4294967296 (Y.take n)) (pw 4294967296 n) Q := ⟨_, hK.qt⟩
  have u0 := (H2.ucell (n + 2) (by omega)).1
  have u1 := (H2.ucell (n + 1) (by omega)).1
  have v1 := H2.vcell (n + 1) (by omega)
  have b0 := dY.getD (by decide) (n + 2)
  have b1 := dY.getD (by decide) (n + 1)
  have b2 := dV.getD (by decide) (n + 1)
  generalize hy2 : Y.getD (n + 2) 0 = y2 at u0 b0
  generalize hy1 : Y.getD (n + 1) 0 = y1 at u1 b1
  generalize hv1 : V.getD (n + 1) 0 = x1 at v1 b2 htop
  obtain ⟨b00, b01⟩ := b0
  obtain ⟨b10, b11⟩ := b1
  obtain ⟨b20, b21⟩ := b2
  have hor : bits BinOp.or IntKind.u64 (y2 * 4294967296) y1 = y2 * 4294967296 + y1 := or_high _ _ 32 (by omega) (by omega) (by omega) b10 (by omega) (by omega)
  have HE := Aside0.mk (And.intro hy2 (And.intro hy1 hv1))
  have HK := Aside0.mk hK
  have HQ := Aside0.mk hQ
  have HS := Aside0.mk (And.intro eV eY)
  have HD := Aside0.mk (And.intro dV (And.intro dY (And.intro hV hY)))
  have HT := Aside0.mk H2
  clear hy2 hy1 hv1 hK hQ eV eY dV dY hV hY H2 hlt
  go_enter Try.func122, Try.ntmps122
  go_wp2_with fail
  go_quiet (fail)
  go_wp2_with fail
  go_quiet (fail)
  generalize hq : World.drewN (World.drewN W _) _ = W1
  have HT1 := Aside0.mk (show Two w0 W1 gu gv N cu (n + 2) cv P Z Y V by rw [← hq]; exact (HT.out.drewN _).drewN _)
  clear hq HT u0 u1 v1
  go_upto_block 0 with fail
  go_cut [7] (fun q w' => ∃ z : Int, q = .int .u64 z ∧ Aside0 (GsP V Y z) ∧ Aside0 (Two w0 w' gu gv N cu (n + 2) cv P Z Y V))
  case first =>
    have hx1 : 0 < x1 := by omega
    have htt : 0 ≤ y2 * 4294967296 + y1 := by omega
    have e0 : 0 ≤ (y2 * 4294967296 + y1) / x1 := Int.ediv_nonneg htt (by omega)
    have hfirst := HK.out.first HQ.out
    rw [HE.out.1, HE.out.2.1, HE.out.2.2] at hfirst
    have hrem0 := Int.emod_nonneg (y2 * 4294967296 + y1) (show x1 ≠ 0 by omega)
    have hrem1 := Int.emod_lt_of_pos (y2 * 4294967296 + y1) hx1
    have hrem2 := Int.ediv_mul_add_emod (y2 * 4294967296 + y1) x1
    have HI0 := Aside0.mk (show GsI V Y n Q ((y2 * 4294967296 + y1) / x1) ((y2 * 4294967296 + y1) % x1) from ⟨by rw [HE.out.1, HE.out.2.1, HE.out.2.2]; exact hrem2, hfirst, hrem0⟩)
    have HR0 := Aside0.mk (show (y2 * 4294967296 + y1) % x1 < 4294967296 by omega)
    have HE0 := Aside0.mk (show (((((y2 * 4294967296 + y1) / x1).toNat : Nat) : Int)) = (y2 * 4294967296 + y1) / x1 by omega)
    clear hfirst hrem0 hrem1 hrem2 e0
    have c0 := HD.out.2.1.getD (by decide) n
    have c1 := HD.out.1.getD (by decide) n
    generalize hx2 : V.getD n 0 = x2 at c1
    generalize hy0 : Y.getD n 0 = y0 at c0
    have HF := Aside0.mk (And.intro hx2 hy0)
    clear hx2 hy0
    obtain ⟨c00, c01⟩ := c0
    obtain ⟨c10, c11⟩ := c1
    go_wp2_with fail
    go_loopg [7, 8] ((y2 * 4294967296 + y1) / x1).toNat (fun kq v7 v8 w' => ∃ q r : Int, v7 = .int .u64 q ∧ v8 = .int .u64 r ∧ Aside0 ((kq : Int) = q) ∧ Aside0 (GsI V Y n Q q r) ∧ Aside0 (r < 4294967296) ∧ Aside0 (Two w0 w' gu gv N cu (n + 2) cv P Z Y V))
    case atStart =>
      exact ⟨_, _, rfl, rfl, HE0, HI0, HR0, HT1⟩
    case round =>
      clear HI0 HE0 HT1 HR0
      obtain ⟨q, r, rfl, rfl, HKq, HI, HR, HT1⟩ := hrel
      have v1 := HT1.out.vcell (n + 1) (by omega)
      rw [HE.out.2.2] at v1
      have v2 := HT1.out.vcell n (by omega)
      rw [HF.out.1] at v2
      have u2 := (HT1.out.ucell n (by rw [HD.out.2.2.2]; omega)).1
      rw [HF.out.2] at u2
      have r0 := HI.out.r0
      have r1 := HR.out
      have q0 : 0 ≤ q := Int.le_trans HQ.out.q0 HI.out.le
      have hqr := HI.out.qr
      rw [HE.out.1, HE.out.2.1, HE.out.2.2] at hqr
      have qx : q ≤ q * x1 := by
        have := Int.mul_le_mul_of_nonneg_left (show 1 ≤ x1 by omega) q0
        omega
      have q1 : q < 18446744073709551616 := by omega
      clear qx hqr
      have HK1 := Aside0.mk (show (KnO V Y n) ∧ QtO V Y n Q from ⟨HK.out, HQ.out⟩)
      have hgo : 4294967296 ≤ q ∨ ¬ 4294967296 ≤ q := by omega
      by_cases hr : 4294967296 ≤ r + x1
      · have hgr : decide (0 < (r + x1) / 4294967296) = true := decide_eq_true (by omega)
        rcases hgo with hq | hq
        · obtain ⟨hI, h1q⟩ := HI.out.next HK1.out.1 HK1.out.2 (.inl hq)
          have HD2 := Aside0.mk (hI.done HK1.out.1 HK1.out.2 HS.out (.inl (by rw [HE.out.2.2]; exact hr)))
          have hg : decide (0 < q / 4294967296) = true := decide_eq_true (by omega)
          clear hI
          go_wp2_with fail
          go_quiet (fail)
          go_wp2_with fail
          go_meet
          exact ⟨q - 1, rfl, HD2, ⟨HT1.out.drewN _⟩⟩
        · have hg : decide (0 < q / 4294967296) = false := decide_eq_false (by omega)
          have hp := mul_lt_sq q0 (show q < 4294967296 by omega) c10 c11
          obtain ⟨hp0, hp1⟩ := hp
          have hor2 : bits BinOp.or IntKind.u64 (r * 4294967296) y0 = r * 4294967296 + y0 := or_high _ _ 32 (by omega) (by omega) (by omega) c00 (by omega) (by omega)
          by_cases ht : r * 4294967296 + y0 < q * x2
          · obtain ⟨hI, h1q⟩ := HI.out.next HK1.out.1 HK1.out.2 (.inr (by rw [HF.out.1, HF.out.2]; exact ht))
            have HD2 := Aside0.mk (hI.done HK1.out.1 HK1.out.2 HS.out (.inl (by rw [HE.out.2.2]; exact hr)))
            clear hI
            go_wp2_with fail
            go_quiet (fail)
            go_wp2_with fail
            go_meet
            exact ⟨q - 1, rfl, HD2, ⟨HT1.out.drewN _⟩⟩
          · have HD2 := Aside0.mk (HI.out.done HK1.out.1 HK1.out.2 HS.out (.inr ⟨by omega, by rw [HF.out.1, HF.out.2]; omega⟩))
            go_wp2_with fail
            go_quiet (fail)
            go_wp2_with fail
            go_meet
            exact ⟨q, rfl, HD2, ⟨HT1.out.drewN _⟩⟩
      · have hgr : decide (0 < (r + x1) / 4294967296) = false := decide_eq_false (by omega)
        rcases hgo with hq | hq
        · obtain ⟨hI, h1q⟩ := HI.out.next HK1.out.1 HK1.out.2 (.inl hq)
          rw [HE.out.2.2] at hI
          have HD2 := Aside0.mk hI
          have hg : decide (0 < q / 4294967296) = true := decide_eq_true (by omega)
          have HRR := Aside0.mk (show r + x1 < 4294967296 by omega)
          clear hI
          go_wp2_with fail
          go_quiet (fail)
          go_wp2_with fail
          go_roundg (gk - 1)
          case measure => have := HKq.out; omega
          case rel => exact ⟨q - 1, r + x1, rfl, rfl, ⟨by have := HKq.out; omega⟩, HD2, HRR, ⟨HT1.out.drewN _⟩⟩
        · have hg : decide (0 < q / 4294967296) = false := decide_eq_false (by omega)
          have hp := mul_lt_sq q0 (show q < 4294967296 by omega) c10 c11
          obtain ⟨hp0, hp1⟩ := hp
          have hor2 : bits BinOp.or IntKind.u64 (r * 4294967296) y0 = r * 4294967296 + y0 := or_high _ _ 32 (by omega) (by omega) (by omega) c00 (by omega) (by omega)
          by_cases ht : r * 4294967296 + y0 < q * x2
          · obtain ⟨hI, h1q⟩ := HI.out.next HK1.out.1 HK1.out.2 (.inr (by rw [HF.out.1, HF.out.2]; exact ht))
            rw [HE.out.2.2] at hI
            have HD2 := Aside0.mk hI
            have HRR := Aside0.mk (show r + x1 < 4294967296 by omega)
            clear hI
            go_wp2_with fail
            go_quiet (fail)
            go_wp2_with fail
            go_roundg (gk - 1)
            case measure => have := HKq.out; omega
            case rel => exact ⟨q - 1, r + x1, rfl, rfl, ⟨by have := HKq.out; omega⟩, HD2, HRR, ⟨HT1.out.drewN _⟩⟩
          · have HD2 := Aside0.mk (HI.out.done HK1.out.1 HK1.out.2 HS.out (.inr ⟨by omega, by rw [HF.out.1, HF.out.2]; omega⟩))
            go_wp2_with fail
            go_quiet (fail)
            go_wp2_with fail
            go_meet
            exact ⟨q, rfl, HD2, ⟨HT1.out.drewN _⟩⟩
  case rest =>
    obtain ⟨q, rfl, HG, HT⟩ := hcut
    clear HK HQ HS HE HT1 hor
    have q0 := HG.out.1
    have q1 := HG.out.2.1
    have HS0 := Aside0.mk (show SbI V Y q 0 0 0 Y from ⟨by omega, by omega, by omega, by omega, HD.out.2.1, rfl, by simp [dv, pw], fun _ _ => rfl⟩)
    go_wp2_with fail
    go_loopg [9, 10, 87] (n + 2) (fun kq v9 v10 v87 w' => ∃ (i : Nat) (c b : Int) (Y9 : List Int), v9 = .int .u64 c ∧ v10 = .int .u64 b ∧ v87 = .int .i64 (i : Int) ∧ Aside0 (i + kq = n + 2) ∧ Aside0 (SbI V Y q i c b Y9) ∧ Aside0 (Two w0 w' gu gv N cu (n + 2) cv P Z Y9 V))
    case atStart => exact ⟨0, 0, 0, Y, rfl, rfl, rfl, ⟨by omega⟩, HS0, HT⟩
    case round =>
      clear HT HS0
      obtain ⟨i, c, b, Y9, rfl, rfl, rfl, HK, HI, HT⟩ := hrel
      have hc0 := HI.out.c0
      have hc1 := HI.out.c1
      have hb0 := HI.out.b0
      have hb1 := HI.out.b1
      cases gk with
      | zero =>
        have hi : i = n + 2 := HK.out
        subst hi
        have htwo := HI.out.two HD.out.2.2.1 HD.out.2.2.2 HD.out.1 HG.out
        have hlz : Y9.length = n + 3 := by rw [HI.out.len]; exact HD.out.2.2.2
        obtain ⟨hu, hf⟩ := HT.out.ucell (n + 2) (by omega)
        have hz := HI.out.dg.getD (by decide) (n + 2)
        rcases htwo with ⟨he, h0⟩ | ⟨he, h0⟩
        · have HF := Aside0.mk (HI.out.fin HD.out.2.2.1 HD.out.2.2.2 HG.out he)
          have HLN := Aside0.mk (show n + 2 < Y9.length by omega)
          have hd : IntKind.u64.wrap (IntKind.u64.wrap (Y9.getD (n + 2) 0 - c) - b) = 0 := by
            rw [u64m, u64m]
            omega
          generalize hun : Y9.getD (n + 2) 0 = un at hu hd he hz
          obtain ⟨hz0, hz1⟩ := hz
          have hd2 : ((0 : Int) / 9223372036854775808 == 0) = true := by decide
          clear h0 he hlz hun
          go_wp2_with fail
          go_ret
          exact ⟨q, Y9.set (n + 2) 0, rfl, HT.out.put hne (n + 2) HLN.out 0, HF.out.1, HF.out.2.1, q0, q1, HF.out.2.2.1, HF.out.2.2.2⟩
        · have htp := HI.out.top HD.out.2.2.1 HD.out.2.2.2
          rw [he, Int.neg_mul, Int.one_mul, ← Int.sub_eq_add_neg] at htp
          have hd : IntKind.u64.wrap (IntKind.u64.wrap (Y9.getD (n + 2) 0 - c) - b) = 18446744073709551615 := by
            rw [u64m, u64m]
            omega
          have q2 : 1 ≤ q := by
            rcases (show q = 0 ∨ 1 ≤ q by omega) with e | e
            · have := dv_nonneg (by decide) HD.out.2.1
              rw [e] at h0
              omega
            · exact e
          have hz9 : dv 4294967296 ((Y9.set (n + 2) 4294967295).take (n + 2)) = dv 4294967296 (Y9.take (n + 2)) := by rw [take_set]
          rw [← hz9] at htp
          have HA0 := Aside0.mk (show AbI V (Y9.set (n + 2) 4294967295) 0 0 (Y9.set (n + 2) 4294967295) from ⟨by omega, by omega, HI.out.dg.set _ (by omega) (by omega), rfl, by simp [dv, pw], fun _ _ => rfl⟩)
          have HT3 := Aside0.mk (HT.out.put hne (n + 2) (by omega) 4294967295)
          have HL1 := Aside0.mk (show (Y9.set (n + 2) 4294967295).length = n + 3 by simp; omega)
          have HZ9 := Aside0.mk (show (Y9.set (n + 2) 4294967295).getD (n + 2) 0 = 4294967295 from getD_set_self (by omega))
          have HTP := Aside0.mk htp
          have H0 := Aside0.mk h0
          obtain ⟨hz0, hz1⟩ := hz
          generalize hun : Y9.getD (n + 2) 0 = un at hu hd hz0 hz1
          have hd2 : ((18446744073709551615 : Int) / 9223372036854775808 == 0) = false := by decide
          clear h0 he hlz hun hz9 htp HT
          generalize hZ1 : Y9.set (n + 2) 4294967295 = Z1 at *
          clear hZ1
          go_wp2_with fail
          go_loopg [15, 140] (n + 2) (fun kq v15 v140 w' => ∃ (i : Nat) (c : Int) (Y9 : List Int), v15 = .int .u64 c ∧ v140 = .int .i64 (i : Int) ∧ Aside0 (i + kq = n + 2) ∧ Aside0 (AbI V Z1 i c Y9) ∧ Aside0 (Two w0 w' gu gv N cu (n + 2) cv P Z Y9 V))
          case atStart => exact ⟨0, 0, Z1, rfl, rfl, ⟨by omega⟩, HA0, HT3⟩
          case round =>
            clear HT3 HA0 hu hf hd hd2 HI hz0 hz1 HK hc0 hc1 hb0 hb1
            obtain ⟨i, c, Y9, rfl, rfl, HK, HI, HT⟩ := hrel
            have hc0 := HI.out.c0
            have hc1 := HI.out.c1
            cases gk with
            | zero =>
              have hi : i = n + 2 := HK.out
              subst hi
              have HF := Aside0.mk (HI.out.fin HD.out.2.2.1 HL1.out HG.out H0.out HTP.out)
              obtain ⟨hu, hf⟩ := HT.out.ucell (n + 2) (by rw [HI.out.len, HL1.out]; omega)
              have hce : c = 1 := HF.out.1
              subst hce
              have HLN := Aside0.mk (show n + 2 < Y9.length by rw [HI.out.len, HL1.out]; omega)
              rw [HI.out.same (n + 2) (Nat.le_refl _), HZ9.out] at hu
              have hb9 : decide ((n : Int) + 2 < (n : Int) + 2) = false := decide_eq_false (by omega)
              go_wp2_with fail
              go_ret
              exact ⟨q - 1, Y9.set (n + 2) 0, rfl, HT.out.put hne (n + 2) HLN.out 0, HF.out.2.1, HF.out.2.2.1, by omega, by omega, HF.out.2.2.2.1, HF.out.2.2.2.2⟩
            | succ k1 =>
              have hi : i < n + 2 := by have := HK.out; omega
              have hb9 : decide (i < n + 2) = true := decide_eq_true hi
              have hzl : Y9.length = n + 3 := by rw [HI.out.len]; exact HL1.out
              have hv := HT.out.vcell i hi
              obtain ⟨hu, hf⟩ := HT.out.ucell i (by omega)
              have hst := HI.out.step HD.out.1 (by omega)
              have hz := HI.out.dg.getD (by decide) i
              have hy := HD.out.1.getD (by decide) i
              generalize V.getD i 0 = y at hv hst hy
              generalize Y9.getD i 0 = u at hu hst hz
              obtain ⟨hz0, hz1⟩ := hz
              obtain ⟨hy0, hy1⟩ := hy
              have HST := Aside0.mk hst
              have HLN := Aside0.mk (show i < Y9.length by omega)
              clear hst hzl
              go_wp2_with fail
              go_roundg k1
              case measure => omega
              case rel =>
                exact ⟨i + 1, _, _, rfl, by simp, ⟨by have := HK.out; omega⟩, HST, ⟨HT.out.put hne i HLN.out _⟩⟩
      | succ k1 =>
        have hi : i < n + 2 := by have := HK.out; omega
        have hb0 : decide (i < n + 2) = true := decide_eq_true hi
        have hzl : Y9.length = n + 3 := by rw [HI.out.len]; exact HD.out.2.2.2
        have hv := HT.out.vcell i hi
        obtain ⟨hu, hf⟩ := HT.out.ucell i (by omega)
        have hst := HI.out.step HD.out.1 q0 q1 (by omega)
        have hz := HI.out.dg.getD (by decide) i
        have hy := HD.out.1.getD (by decide) i
        generalize V.getD i 0 = y at hv hst hy
        generalize Y9.getD i 0 = u at hu hst hz
        obtain ⟨hz0, hz1⟩ := hz
        obtain ⟨hy0, hy1⟩ := hy
        obtain ⟨hp0, hp1⟩ := mul_lt_sq q0 q1 hy0 hy1
        have HST := Aside0.mk hst
        have HLN := Aside0.mk (show i < Y9.length by omega)
        clear hst hzl
        go_wp2_with fail
        go_roundg k1
        case measure => omega
        case rel =>
          refine ⟨i + 1, _, _, _, rfl, rfl, by simp, ⟨by have := HK.out; omega⟩, HST, ⟨HT.out.put hne i HLN.out _⟩⟩
end Go.Proofs.Ytdginjpppgfdaaa.Ng

/-
  exact's functions of whole numbers: what they compute, and the walks of the small ones.
-/
import Derived.Test.YtdginjpppgfdaaaQb
namespace Go.Proofs.Ytdginjpppgfdaaa.Ea
open Go.RowKit Go Go.Proofs.YtdginjpppgfdaaaW.PrintWords Go.Proofs.YtdginjpppgfdaaaW.PrintLast Go.Proofs.YtdginjpppgfdaaaW.PrintMore Go.Proofs.Ytdginjpppgfdaaa.Ml Go.Proofs.Ytdginjpppgfdaaa.Mn Go.Proofs.Ytdginjpppgfdaaa.Nd Go.Proofs.Ytdginjpppgfdaaa.P Go.Proofs.Ytdginjpppgfdaaa.Nc Go.Proofs.Ytdginjpppgfdaaa.Nb Go.Proofs.Ytdginjpppgfdaaa.Qa Go.Proofs.Ytdginjpppgfdaaa.Qb
set_option linter.unusedVariables false
set_option linter.unusedSimpArgs false

theorem gcd_l (y : Nat) : ∀ x k : Nat, y < k → exact_gcd.l0 k (x : Int) (y : Int) = some ((Nat.gcd x y : Nat) : Int) := by
  induction y using Nat.strongRecOn with
  | _ y ih =>
    intro x k hk
    obtain ⟨k, rfl⟩ : ∃ j, k = j + 1 := ⟨k - 1, by omega⟩
    unfold exact_gcd.l0
    by_cases hy : y = 0
    · subst hy
      simp
    · rw [if_neg (by omega)]
      have e : Int.tmod (x : Int) (y : Int) = ((x % y : Nat) : Int) := by rw [Int.tmod_eq_emod_of_nonneg (by omega)]; simp
      rw [e, ih (x % y) (Nat.mod_lt _ (by omega)) y k (by have := Nat.mod_lt x (show y > 0 by omega); omega)]
      congr 2
      rw [Nat.gcd_comm x y, Nat.gcd_rec y x, Nat.gcd_comm]
theorem gcd_f (a : Int) (b : Nat) (k : Nat) (h0 : -9223372036854775807 ≤ a) (h1 : a ≤ 9223372036854775807) (hk : b + 1 < k) : exact_gcd.f k a (b : Int) = some ((Int.gcd a b : Nat) : Int) := by
  obtain ⟨k, rfl⟩ : ∃ j, k = j + 1 := ⟨k - 1, by omega⟩
  have ej : ∀ x y, exact_gcd.j0 (k + 1) x y = exact_gcd.l0 k x y := fun _ _ => by unfold exact_gcd.j0; rfl
  unfold exact_gcd.f
  rw [ej, ej]
  by_cases ha : a < 0
  · rw [if_pos ha, w64 (by omega) (by omega)]
    obtain ⟨n, hn⟩ : ∃ n : Nat, -a = (n : Int) := ⟨(-a).toNat, by omega⟩
    rw [hn, gcd_l b n k (by omega)]
    have : Int.gcd a b = Nat.gcd n b := by
      rw [show a = -(n : Int) by omega, Int.neg_gcd]; rfl
    rw [this]
  · rw [if_neg ha]
    obtain ⟨n, rfl⟩ : ∃ n : Nat, a = (n : Int) := ⟨a.toNat, by omega⟩
    rw [gcd_l b n k (by omega)]
    rfl
def lowN (n d : Int) : Int := n / (Int.gcd n d : Int)
def lowD (n d : Int) : Int := d / (Int.gcd n d : Int)
theorem div_bound {n g : Int} (hg : 1 ≤ g) {m : Int} (h0 : -m ≤ n) (h1 : n ≤ m) (hd : g ∣ n) : -m ≤ n / g ∧ n / g ≤ m := by
  obtain ⟨q, rfl⟩ := hd
  rw [Int.mul_ediv_cancel_left _ (by omega)]
  have hm : 0 ≤ m := by omega
  rcases Int.lt_or_le q 0 with h | h
  · have : g * (-q) ≥ 1 * (-q) := Int.mul_le_mul_of_nonneg_right hg (by omega)
    rw [Int.mul_neg] at this
    omega
  · have : g * q ≥ 1 * q := Int.mul_le_mul_of_nonneg_right hg h
    omega
theorem lowest_f (n : Int) (d : Int) (h0 : -9223372036854775807 ≤ n) (h1 : n ≤ 9223372036854775807) (hd : 1 ≤ d) (hd1 : d ≤ 9223372036854775807) : ∃ k, exact_lowest.f k n d = some (lowN n d, lowD n d) := by
  obtain ⟨m, rfl⟩ : ∃ m : Nat, d = (m : Int) := ⟨d.toNat, by omega⟩
  refine ⟨m + 2, ?_⟩
  unfold exact_lowest.f lowN lowD
  rw [gcd_f n m (m + 2) h0 h1 (by omega), Option.bind_some]
  have hg : 1 ≤ ((Int.gcd n m : Nat) : Int) := by
    have := Int.gcd_pos_of_ne_zero_right n (show (m : Int) ≠ 0 by omega)
    omega
  have d1 : ((Int.gcd n m : Nat) : Int) ∣ n := Int.gcd_dvd_left n m
  have d2 : ((Int.gcd n m : Nat) : Int) ∣ (m : Int) := Int.gcd_dvd_right n m
  rw [if_neg (by omega), Int.tdiv_eq_ediv_of_dvd d1, Int.tdiv_eq_ediv_of_dvd d2]
  have b1 := div_bound hg h0 h1 d1
  have b2 := div_bound hg (m := 9223372036854775807) (by omega) hd1 d2
  rw [w64 (by omega) (by omega), w64 (by omega) (by omega)]

def isScale (s : Int) : Bool := decide (1 ≤ s) && decide (s ≤ 1000000)
def isTicks (s : Int) : Bool := decide (-1099511627776 ≤ s) && decide (s ≤ 1099511627776)
def isHow (h : Int) : Bool := decide (h = 0) || decide (h = 1) || decide (h = 2)
def valid (n d : Int) : Bool := decide (1 ≤ d) && decide (d ≤ 1152921504606846976) && decide (-1152921504606846976 ≤ n) && decide (n ≤ 1152921504606846976)
def tm (n d : Int) : Value := .agg #[.int .i64 n, .int .i64 d]
def er (e : Int) : Value := .int .i64 e

set_option maxHeartbeats 1000000 in
theorem isScale_n (s : Int) (w : World) : Calls Try.prog 47 #[.int .i64 s] w (fun e w' => e = .returned (.bool (isScale s)) ∧ w = w') := by
  go_enter Try.func47, Try.ntmps47
  go_wp2
  all_goals
    go_ret
    refine ⟨ret_b ?_, rfl⟩
    unfold isScale
    first | (simp_all; done) | (simp_all; omega) | grind
set_option maxHeartbeats 1000000 in
theorem isTicks_n (s : Int) (w : World) : Calls Try.prog 46 #[.int .i64 s] w (fun e w' => e = .returned (.bool (isTicks s)) ∧ w = w') := by
  go_enter Try.func46, Try.ntmps46
  go_wp2
  all_goals
    go_ret
    refine ⟨ret_b ?_, rfl⟩
    unfold isTicks
    first | (simp_all; done) | (simp_all; omega) | grind
set_option maxHeartbeats 1000000 in
theorem isHow_n (s : Int) (w : World) : Calls Try.prog 67 #[.int .i64 s] w (fun e w' => e = .returned (.bool (isHow s)) ∧ w = w') := by
  go_enter Try.func67, Try.ntmps67
  go_wp2
  all_goals
    go_ret
    refine ⟨ret_b ?_, rfl⟩
    unfold isHow
    first | (simp_all; done) | (simp_all; omega) | grind
set_option maxHeartbeats 2000000 in
set_option maxRecDepth 100000 in
theorem Valid_n (n d : Int) (w : World) : Calls Try.prog 24 #[tm n d] w (fun e w' => e = .returned (.bool (valid n d)) ∧ Below w.heap.size w w') := by
  have hu := Try.underlying25
  unfold tm
  go_enter Try.func24, Try.ntmps24
  go_wp2
  all_goals
    go_ret
    refine ⟨ret_b ?_, below_alloc (Below.refl _ _) _⟩
    unfold valid
    first | (simp_all; done) | (simp_all; omega) | grind
end Go.Proofs.Ytdginjpppgfdaaa.Ea

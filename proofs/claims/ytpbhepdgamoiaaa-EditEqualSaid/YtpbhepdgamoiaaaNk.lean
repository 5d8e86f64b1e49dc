/-
  Plain: the step of long division that guesses a digit from the highest digits (base 2^32).
-/
import Derived.Test.YtpbhepdgamoiaaaMn
namespace Go.Proofs.Ytpbhepdgamoiaaa.Nk
open Go.Proofs.YtpbhepdgamoiaaaW.PrintWords Go.Proofs.Ytpbhepdgamoiaaa.Ml Go.Proofs.Ytpbhepdgamoiaaa.Mn
open Go.RowKit (wrap64)
set_option linter.unusedVariables false

theorem mul_mono {a b c d : Int} (h1 : a ≤ b) (h2 : c ≤ d) (h3 : 0 ≤ c) (h4 : 0 ≤ b) : a * c ≤ b * d := Int.le_trans (Int.mul_le_mul_of_nonneg_right h1 h3) (Int.mul_le_mul_of_nonneg_left h2 h4)
theorem lt_of_mul {a b c : Int} (h : a * c < b * c) (hc : 0 < c) : a < b := Int.lt_of_mul_lt_mul_right h (Int.le_of_lt hc)

/-- Numbers at hand: the divisor v1, v2, rest; the dividend top, u2, rest; M the power below. -/
structure Kn (v1 v2 vl top u2 ul M : Int) : Prop where
  m : 0 < M
  v1a : 2147483648 ≤ v1
  v1b : v1 < 4294967296
  v2a : 0 ≤ v2
  v2b : v2 < 4294967296
  vla : 0 ≤ vl
  vlb : vl < M
  ta : 0 ≤ top
  tb : top < 18446744073709551616
  u2a : 0 ≤ u2
  u2b : u2 < 4294967296
  ula : 0 ≤ ul
  ulb : ul < M
  lt : (top * 4294967296 + u2) * M + ul < ((v1 * 4294967296 + v2) * M + vl) * 4294967296
section
variable {v1 v2 vl top u2 ul M q r : Int}
theorem Kn.top_le (h : Kn v1 v2 vl top u2 ul M) : top < v1 * 4294967296 + 4294967296 := by
  have h1 := h.lt
  have h2 := h.m
  have hv1a := h.v1a
  have hv1b := h.v1b
  have hv2b := h.v2b
  have hvlb := h.vlb
  have hula := h.ula
  have hu2a := h.u2a
  refine Int.lt_of_not_ge fun hc => ?_
  have h3 : (v1 * 4294967296 + 4294967296) * 4294967296 ≤ top * 4294967296 + u2 := by omega
  have h4 := Int.mul_le_mul_of_nonneg_right h3 (Int.le_of_lt h2)
  have h5 : (v1 * 4294967296 + v2 + 1) * M ≤ (v1 * 4294967296 + 4294967296) * M := Int.mul_le_mul_of_nonneg_right (by omega) (Int.le_of_lt h2)
  have h6 : (v1 * 4294967296 + 4294967296) * 4294967296 * M = (v1 * 4294967296 + 4294967296) * M * 4294967296 := by grind
  have h7 : (v1 * 4294967296 + v2 + 1) * M = (v1 * 4294967296 + v2) * M + M := by grind
  generalize (v1 * 4294967296 + v2) * M = A at *
  generalize (v1 * 4294967296 + 4294967296) * M = C at *
  generalize (top * 4294967296 + u2) * M = D at *
  omega
/-- The quotient, Q: what is to be found. -/
structure Qt (v1 v2 vl top u2 ul M Q : Int) : Prop where
  q0 : 0 ≤ Q
  lo : Q * ((v1 * 4294967296 + v2) * M + vl) ≤ (top * 4294967296 + u2) * M + ul
  hi : (top * 4294967296 + u2) * M + ul < (Q + 1) * ((v1 * 4294967296 + v2) * M + vl)
theorem Kn.v_pos (h : Kn v1 v2 vl top u2 ul M) : 0 < (v1 * 4294967296 + v2) * M + vl := by
  have h1 := h.v1a
  have h2 := h.v2a
  have h3 := h.vla
  have := Int.mul_pos (show 0 < v1 * 4294967296 + v2 by omega) h.m
  omega
theorem Kn.u_nn (h : Kn v1 v2 vl top u2 ul M) : 0 ≤ (top * 4294967296 + u2) * M + ul := by
  have h1 := h.ta
  have h2 := h.u2a
  have h3 := h.ula
  have := Int.mul_nonneg (show 0 ≤ top * 4294967296 + u2 by omega) (Int.le_of_lt h.m)
  omega
theorem Kn.qt (h : Kn v1 v2 vl top u2 ul M) : Qt v1 v2 vl top u2 ul M (((top * 4294967296 + u2) * M + ul) / ((v1 * 4294967296 + v2) * M + vl)) := by
  exact ⟨Int.ediv_nonneg h.u_nn (Int.le_of_lt h.v_pos), Int.ediv_mul_le _ (Int.ne_of_gt h.v_pos), Int.lt_ediv_add_one_mul_self _ h.v_pos⟩
theorem Kn.q_lt (h : Kn v1 v2 vl top u2 ul M) {Q : Int} (hq : Qt v1 v2 vl top u2 ul M Q) : Q < 4294967296 := by
  have h1 := h.lt
  have h2 := hq.lo
  have hv := h.v_pos
  generalize (v1 * 4294967296 + v2) * M + vl = V at *
  refine lt_of_mul (c := V) ?_ hv
  rw [Int.mul_comm 4294967296 V]
  omega
theorem Kn.first (h : Kn v1 v2 vl top u2 ul M) {Q : Int} (hq : Qt v1 v2 vl top u2 ul M Q) : Q ≤ top / v1 := by
  have h1 := hq.lo
  have h2 := h.m
  have h3 : Q * (v1 * 4294967296 * M) ≤ Q * ((v1 * 4294967296 + v2) * M + vl) := by
    refine Int.mul_le_mul_of_nonneg_left ?_ hq.q0
    have h4 : v1 * 4294967296 * M ≤ (v1 * 4294967296 + v2) * M := Int.mul_le_mul_of_nonneg_right (by have := h.v2a; omega) (Int.le_of_lt h2)
    have := h.vla
    omega
  have h4 : (top * 4294967296 + u2) * M + ul < (top + 1) * 4294967296 * M := by
    have h5 : (top * 4294967296 + u2 + 1) * M ≤ (top + 1) * 4294967296 * M := Int.mul_le_mul_of_nonneg_right (by have := h.u2b; omega) (Int.le_of_lt h2)
    have h6 : (top * 4294967296 + u2 + 1) * M = (top * 4294967296 + u2) * M + M := by grind
    have := h.ulb
    omega
  have h5 : Q * v1 * (4294967296 * M) < (top + 1) * (4294967296 * M) := by
    have e1 : Q * v1 * (4294967296 * M) = Q * (v1 * 4294967296 * M) := by grind
    have e2 : (top + 1) * (4294967296 * M) = (top + 1) * 4294967296 * M := by grind
    omega
  have h6 := lt_of_mul h5 (by omega)
  exact (Int.le_ediv_iff_mul_le (by have := h.v1a; omega)).2 (by omega)
/-- A guess that is too great, or fails the test with the second digits, is above the quotient. -/
theorem Kn.step (h : Kn v1 v2 vl top u2 ul M) {Q : Int} (hq : Qt v1 v2 vl top u2 ul M Q) (hqr : q * v1 + r = top) (h0 : Q ≤ q) (ht : 4294967296 ≤ q ∨ r * 4294967296 + u2 < q * v2) : Q ≤ q - 1 := by
  rcases ht with ht | ht
  · have := h.q_lt hq
    omega
  · have hq0 := hq.q0
    have h1 := h.m
    have h2 : q * (v1 * 4294967296 + v2) ≥ top * 4294967296 + u2 + 1 := by
      have e : q * (v1 * 4294967296 + v2) = (q * v1) * 4294967296 + q * v2 := by grind
      rw [e]
      generalize q * v2 = a at *
      generalize q * v1 = b at *
      omega
    have h3 : (top * 4294967296 + u2 + 1) * M ≤ q * (v1 * 4294967296 + v2) * M := Int.mul_le_mul_of_nonneg_right h2 (Int.le_of_lt h1)
    have h4 : q * (v1 * 4294967296 + v2) * M ≤ q * ((v1 * 4294967296 + v2) * M + vl) := by
      have e : q * ((v1 * 4294967296 + v2) * M + vl) = q * (v1 * 4294967296 + v2) * M + q * vl := by grind
      have := Int.mul_nonneg (show 0 ≤ q by omega) h.vla
      omega
    have h5 : (top * 4294967296 + u2 + 1) * M = (top * 4294967296 + u2) * M + M := by grind
    have h6 := hq.lo
    have h7 := h.ulb
    have hv := h.v_pos
    generalize (v1 * 4294967296 + v2) * M + vl = V at *
    have h8 : Q * V < q * V := by omega
    have := lt_of_mul h8 hv
    omega
/-- A guess that passes is at most one too great. -/
theorem Kn.pass (h : Kn v1 v2 vl top u2 ul M) {Q : Int} (hq : Qt v1 v2 vl top u2 ul M Q) (hqr : q * v1 + r = top) (h0 : Q ≤ q) (h1 : q < 4294967296) (hr : 0 ≤ r) (ht : 4294967296 ≤ r ∨ q * v2 ≤ r * 4294967296 + u2) : q ≤ Q + 1 := by
  have hq0 := hq.q0
  have h2 : q * (v1 * 4294967296 + v2) ≤ top * 4294967296 + u2 := by
    have e : q * (v1 * 4294967296 + v2) = (q * v1) * 4294967296 + q * v2 := by grind
    have h3 : q * v2 ≤ r * 4294967296 + u2 := by
      rcases ht with ht | ht
      · have h4 : q * v2 ≤ 4294967295 * 4294967295 := mul_mono (by omega) (by have := h.v2b; omega) h.v2a (by omega)
        have := h.u2a
        omega
      · exact ht
    rw [e]
    generalize q * v2 = a at *
    generalize q * v1 = b at *
    omega
  refine Int.le_of_not_gt fun hc => ?_
  have h3 : (Q + 1) * ((v1 * 4294967296 + v2) * M + vl) ≤ (q - 1) * ((v1 * 4294967296 + v2) * M + vl) := Int.mul_le_mul_of_nonneg_right (by omega) (Int.le_of_lt h.v_pos)
  have h4 : (q - 1) * ((v1 * 4294967296 + v2) * M + vl) ≤ (q - 1) * ((v1 * 4294967296 + v2) * M + M) := Int.mul_le_mul_of_nonneg_left (by have := h.vlb; omega) (by omega)
  have h5 : (q - 1) * ((v1 * 4294967296 + v2) * M + M) = (q * (v1 * 4294967296 + v2) + (q - 1 - (v1 * 4294967296 + v2))) * M := by grind
  have h6 : (q * (v1 * 4294967296 + v2) + (q - 1 - (v1 * 4294967296 + v2))) * M ≤ (top * 4294967296 + u2) * M := Int.mul_le_mul_of_nonneg_right (by have := h.v1a; have := h.v2a; omega) (Int.le_of_lt h.m)
  have h7 := hq.hi
  have h8 := h.ula
  omega
theorem Kn.small (h : Kn v1 v2 vl top u2 ul M) (hqr : q * v1 + r = top) (hr : 4294967296 ≤ r) : q < 4294967296 := by
  have h1 := h.top_le
  have h2 := h.v1a
  refine lt_of_mul (c := v1) ?_ (by omega)
  rw [Int.mul_comm 4294967296 v1]
  omega
/-- What is left, once a guess of the two has been taken. -/
theorem Kn.left (h : Kn v1 v2 vl top u2 ul M) {Q : Int} (hq : Qt v1 v2 vl top u2 ul M Q) (h0 : Q ≤ q) (h1 : q ≤ Q + 1) :
    -((v1 * 4294967296 + v2) * M + vl) ≤ (top * 4294967296 + u2) * M + ul - q * ((v1 * 4294967296 + v2) * M + vl) ∧ (top * 4294967296 + u2) * M + ul - q * ((v1 * 4294967296 + v2) * M + vl) < (v1 * 4294967296 + v2) * M + vl := by
  have h2 := hq.lo
  have h3 := hq.hi
  generalize (v1 * 4294967296 + v2) * M + vl = V at *
  generalize (top * 4294967296 + u2) * M + ul = U at *
  rcases (show q = Q ∨ q = Q + 1 by omega) with e | e
  · subst e
    rw [Int.add_mul] at h3
    omega
  · subst e
    rw [Int.add_mul] at h3 ⊢
    omega
end

/-! ### the digits of the two numbers -/
theorem dv_top (l : List Int) (n : Nat) (hl : l.length = n + 2) : dv 4294967296 l = (l.getD (n + 1) 0 * 4294967296 + l.getD n 0) * pw 4294967296 n + dv 4294967296 (l.take n) := by
  have h1 := dv_take_succ 4294967296 l (n + 1) (by omega)
  have h2 := dv_take_succ 4294967296 l n (by omega)
  rw [List.take_of_length_le (by omega), pw_succ] at h1
  rw [h1, h2]
  grind
theorem Kn.of (v u : List Int) (n : Nat) (hv : v.length = n + 2) (hu : u.length = n + 3) (dv_ : Dg 4294967296 v) (du : Dg 4294967296 u) (ht : 2147483648 ≤ v.getD (n + 1) 0) (hlt : dv 4294967296 u < dv 4294967296 v * 4294967296) :
    Kn (v.getD (n + 1) 0) (v.getD n 0) (dv 4294967296 (v.take n)) (u.getD (n + 2) 0 * 4294967296 + u.getD (n + 1) 0) (u.getD n 0) (dv 4294967296 (u.take n)) (pw 4294967296 n) ∧
    dv 4294967296 v = (v.getD (n + 1) 0 * 4294967296 + v.getD n 0) * pw 4294967296 n + dv 4294967296 (v.take n) ∧
    dv 4294967296 u = ((u.getD (n + 2) 0 * 4294967296 + u.getD (n + 1) 0) * 4294967296 + u.getD n 0) * pw 4294967296 n + dv 4294967296 (u.take n) := by
  have e1 := dv_top v n hv
  have e2 : dv 4294967296 u = ((u.getD (n + 2) 0 * 4294967296 + u.getD (n + 1) 0) * 4294967296 + u.getD n 0) * pw 4294967296 n + dv 4294967296 (u.take n) := by
    have h1 := dv_take_succ 4294967296 u (n + 2) (by omega)
    have h2 := dv_take_succ 4294967296 u (n + 1) (by omega)
    have h3 := dv_take_succ 4294967296 u n (by omega)
    rw [List.take_of_length_le (by omega), pw_succ, pw_succ] at h1
    rw [pw_succ] at h2
    rw [h1, h2, h3]
    grind
  have a1 := dv_.getD (by decide) (n + 1)
  have a2 := dv_.getD (by decide) n
  have a3 := du.getD (by decide) (n + 2)
  have a4 := du.getD (by decide) (n + 1)
  have a5 := du.getD (by decide) n
  have b1 := dv_nonneg (by decide) (dv_.take n)
  have b2 := dv_lt (by decide) (dv_.take n)
  have b3 := dv_nonneg (by decide) (du.take n)
  have b4 := dv_lt (by decide) (du.take n)
  rw [List.length_take, Nat.min_eq_left (by omega)] at b2 b4
  refine ⟨⟨pow_pos (by decide) n, ht, a1.2, a2.1, a2.2, b1, b2, by omega, by omega, a5.1, a5.2, b3, b4, ?_⟩, e1, e2⟩
  rw [← e1, ← e2]
  exact hlt
end Go.Proofs.Ytpbhepdgamoiaaa.Nk

/-
  Limbs divided by two limbs and more: the walk of num.divMag, and what it comes to.
-/
import Derived.Test.YtpbhepdgamoiaaaDa
import Derived.Outline
namespace Go.Proofs.Ytpbhepdgamoiaaa.Db
open Go.RowKit Go Go.Proofs.YtpbhepdgamoiaaaW.PrintWords Go.Proofs.YtpbhepdgamoiaaaW.PrintLast Go.Proofs.YtpbhepdgamoiaaaW.PrintMore Go.Proofs.Ytpbhepdgamoiaaa.Ml Go.Proofs.Ytpbhepdgamoiaaa.Mn Go.Proofs.Ytpbhepdgamoiaaa.Nd Go.Proofs.Ytpbhepdgamoiaaa.P Go.Proofs.Ytpbhepdgamoiaaa.Nc Go.Proofs.Ytpbhepdgamoiaaa.Nb Go.Proofs.Ytpbhepdgamoiaaa.Ns Go.Proofs.Ytpbhepdgamoiaaa.Nk Go.Proofs.Ytpbhepdgamoiaaa.Ng Go.Proofs.Ytpbhepdgamoiaaa.Lz Go.Proofs.Ytpbhepdgamoiaaa.Da
set_option linter.unusedVariables false
set_option linter.unusedSimpArgs false

/-! ### the divisor is moved up till its highest bit is set -/
theorem lz_num (x : Int) (h0 : 0 < x) (h1 : x < 4294967296) : ∃ b : Nat, b ≤ 31 ∧ (32 - ((Lib.bitLen x.toNat : Nat) : Int)) = (b : Int) ∧ 2147483648 ≤ x * 2 ^ b ∧ (x + 1) * 2 ^ b ≤ 4294967296 := by
  have hx : ((x.toNat : Nat) : Int) = x := by omega
  obtain ⟨l1, l2, l3⟩ := Lib.bitLenAux_bounds 64 x.toNat (by omega) (by omega)
  have e : Lib.bitLen x.toNat = Lib.bitLenAux 64 x.toNat := rfl
  rw [e]
  generalize Lib.bitLenAux 64 x.toNat = k at *
  generalize x.toNat = n at *
  subst hx
  have hk : k ≤ 32 := by
    refine Nat.le_of_not_lt fun h => ?_
    have : 2 ^ 32 ≤ 2 ^ (k - 1) := Nat.pow_le_pow_right (by decide) (by omega)
    omega
  refine ⟨32 - k, by omega, by omega, ?_, ?_⟩
  · have h3 : 2 ^ (k - 1) * 2 ^ (32 - k) ≤ n * 2 ^ (32 - k) := Nat.mul_le_mul_right _ l2
    rw [← Nat.pow_add, show k - 1 + (32 - k) = 31 by omega] at h3
    have h4 : ((n * 2 ^ (32 - k) : Nat) : Int) = (n : Int) * 2 ^ (32 - k) := by simp
    rw [← h4]
    omega
  · have h3 : (n + 1) * 2 ^ (32 - k) ≤ 2 ^ k * 2 ^ (32 - k) := Nat.mul_le_mul_right _ l3
    rw [← Nat.pow_add, show k + (32 - k) = 32 by omega] at h3
    have h4 : (((n + 1) * 2 ^ (32 - k) : Nat) : Int) = ((n : Int) + 1) * 2 ^ (32 - k) := by simp
    rw [← h4]
    omega

/-- The divisor, moved up: its digits are as many as before, the highest one is no less than the half. -/
theorem norm_v (lb vl : List Int) (n : Nat) (p : Int) (hp : 0 < p) (hb : Cn 4294967296 lb) (hl : lb.length = n + 2) (dV : Dg 4294967296 vl) (lV : vl.length = n + 3) (vV : dv 4294967296 vl = dv 4294967296 lb * p) (h1 : 2147483648 ≤ lb.getD (n + 1) 0 * p) (h2 : (lb.getD (n + 1) 0 + 1) * p ≤ 4294967296) :
    dv 4294967296 (vl.take (n + 2)) = dv 4294967296 lb * p ∧ 2147483648 ≤ (vl.take (n + 2)).getD (n + 1) 0 := by
  have e1 := dv_take_succ 4294967296 lb (n + 1) (by omega)
  rw [List.take_of_length_le (by omega)] at e1
  have a0 := dv_nonneg (by decide) (hb.dg.take (n + 1))
  have a1 := dv_lt (by decide) (hb.dg.take (n + 1))
  rw [List.length_take, Nat.min_eq_left (by omega)] at a1
  have hM := pow_pos (B := 4294967296) (by decide) (n + 1)
  have e2 := dv_take_succ 4294967296 vl (n + 2) (by omega)
  rw [List.take_of_length_le (by omega), pw_succ] at e2
  have e3 := dv_take_succ 4294967296 vl (n + 1) (by omega)
  have b0 := dv_nonneg (by decide) (dV.take (n + 2))
  have b1 := dv_nonneg (by decide) (dV.take (n + 1))
  have b2 := dv_lt (by decide) (dV.take (n + 1))
  rw [List.length_take, Nat.min_eq_left (by omega)] at b2
  have c0 := dV.getD (by decide) (n + 2)
  generalize dv 4294967296 (lb.take (n + 1)) = ll at *
  generalize lb.getD (n + 1) 0 = t at *
  generalize pw 4294967296 (n + 1) = M at *
  have u1 : dv 4294967296 lb * p < M * 4294967296 := by
    have h3 : dv 4294967296 lb + 1 ≤ (t + 1) * M := by rw [e1, Int.add_mul]; omega
    have h4 : (dv 4294967296 lb + 1) * p ≤ (t + 1) * M * p := Int.mul_le_mul_of_nonneg_right h3 (by omega)
    have h5 : (t + 1) * M * p = (t + 1) * p * M := by grind
    have h6 : (t + 1) * p * M ≤ 4294967296 * M := Int.mul_le_mul_of_nonneg_right h2 (by omega)
    rw [Int.add_mul] at h4
    omega
  have u2 : 2147483648 * M ≤ dv 4294967296 lb * p := by
    have h3 : t * p * M ≤ dv 4294967296 lb * p := by
      have h4 : t * M * p ≤ dv 4294967296 lb * p := Int.mul_le_mul_of_nonneg_right (by omega) (by omega)
      have h5 : t * p * M = t * M * p := by grind
      omega
    have h4 : 2147483648 * M ≤ t * p * M := Int.mul_le_mul_of_nonneg_right h1 (by omega)
    omega
  have z : vl.getD (n + 2) 0 = 0 := by
    refine Int.le_antisymm (Int.le_of_not_gt fun h => ?_) c0.1
    have h3 : 1 * (M * 4294967296) ≤ vl.getD (n + 2) 0 * (M * 4294967296) := Int.mul_le_mul_of_nonneg_right (by omega) (by omega)
    omega
  have hv : dv 4294967296 (vl.take (n + 2)) = dv 4294967296 lb * p := by rw [z] at e2; omega
  refine ⟨hv, ?_⟩
  have e4 : (vl.take (n + 2)).getD (n + 1) 0 = vl.getD (n + 1) 0 := by
    simp [List.getD_eq_getElem?_getD, List.getElem?_take]
  rw [e4]
  refine Int.le_of_not_gt fun h => ?_
  rw [hv] at e3
  have h3 : (vl.getD (n + 1) 0 + 1) * M ≤ 2147483648 * M := Int.mul_le_mul_of_nonneg_right (by omega) (by omega)
  rw [Int.add_mul] at h3
  omega

/-! ### the quotient's digits, from the highest one on -/
structure LdI (ul V : List Int) (n m : Nat) (U quo : List Int) : Prop where
  dU : Dg 4294967296 U
  lU : U.length = ul.length
  dq : Dg 4294967296 quo
  lq : quo.length = ul.length - n - 2
  top : dv 4294967296 (U.drop m) < dv 4294967296 V
  val : dv 4294967296 ul = dv 4294967296 U + dv 4294967296 (quo.drop m) * dv 4294967296 V * pw 4294967296 m
theorem LdI.start (ul V : List Int) (n : Nat) (dU : Dg 4294967296 ul) (hl : n + 3 ≤ ul.length) (hV : V.length = n + 2) (dV : Dg 4294967296 V) (htop : ul.getD (ul.length - 1) 0 < V.getD (n + 1) 0) :
    LdI ul V n (ul.length - n - 2) ul (List.replicate (ul.length - n - 2) 0) := by
  refine ⟨dU, rfl, Dg.replicate (by decide) _, by simp, ?_, by simp [List.drop_of_length_le, dv]⟩
  have e1 := dv_take_succ 4294967296 (ul.drop (ul.length - n - 2)) (n + 1) (by simp; omega)
  rw [List.take_of_length_le (by simp; omega)] at e1
  have e2 : (ul.drop (ul.length - n - 2)).getD (n + 1) 0 = ul.getD (ul.length - 1) 0 := by
    simp only [List.getD_eq_getElem?_getD, List.getElem?_drop]
    congr 2
    omega
  have e3 := dv_take_succ 4294967296 V (n + 1) (by omega)
  rw [List.take_of_length_le (by omega)] at e3
  have a1 := dv_lt (by decide) ((dU.drop (ul.length - n - 2)).take (n + 1))
  rw [List.length_take, Nat.min_eq_left (by simp; omega)] at a1
  have a2 := dv_nonneg (by decide) (dV.take (n + 1))
  have hM := pow_pos (B := 4294967296) (by decide) (n + 1)
  rw [e1, e2, e3]
  have h3 : (ul.getD (ul.length - 1) 0 + 1) * pw 4294967296 (n + 1) ≤ V.getD (n + 1) 0 * pw 4294967296 (n + 1) := Int.mul_le_mul_of_nonneg_right (by omega) (by omega)
  rw [Int.add_mul] at h3
  omega
/-- The window at a place. -/
theorem LdI.win {ul V U quo : List Int} {n m : Nat} (h : LdI ul V n (m + 1) U quo) (hV : V.length = n + 2) (dV : Dg 4294967296 V) (hm : m + 1 ≤ ul.length - n - 2) :
    U = U.take m ++ ((U.drop m).take (n + 3) ++ U.drop (m + (n + 3))) ∧ (U.take m).length = m ∧ ((U.drop m).take (n + 3)).length = n + 3 ∧ Dg 4294967296 ((U.drop m).take (n + 3)) ∧ dv 4294967296 (U.drop (m + (n + 3))) = 0 ∧ dv 4294967296 ((U.drop m).take (n + 3)) < dv 4294967296 V * 4294967296 := by
  have hlU := h.lU
  have e0 : (U.drop m).drop (n + 3) = U.drop (m + (n + 3)) := by rw [List.drop_drop]
  have z : dv 4294967296 (U.drop (m + (n + 3))) = 0 := by
    have h1 := dv_split 4294967296 (U.drop (m + 1)) (n + 2) (by simp; omega)
    rw [List.drop_drop, show m + 1 + (n + 2) = m + (n + 3) by omega] at h1
    have h2 := h.top
    have h3 := dv_lt (by decide) dV
    rw [hV] at h3
    have h4 := dv_nonneg (by decide) ((h.dU.drop (m + 1)).take (n + 2))
    have h5 := dv_nonneg (by decide) (h.dU.drop (m + (n + 3)))
    have hM := pow_pos (B := 4294967296) (by decide) (n + 2)
    refine Int.le_antisymm (Int.le_of_not_gt fun h6 => ?_) h5
    have h7 : pw 4294967296 (n + 2) * 1 ≤ pw 4294967296 (n + 2) * dv 4294967296 (U.drop (m + (n + 3))) := Int.mul_le_mul_of_nonneg_left (by omega) (by omega)
    omega
  refine ⟨?_, by simp; omega, by simp; omega, (h.dU.drop m).take _, z, ?_⟩
  · rw [← e0, List.take_append_drop, List.take_append_drop]
  · have h1 := dv_split 4294967296 (U.drop m) (n + 3) (by simp; omega)
    rw [e0, z] at h1
    have h2 := dv_drop 4294967296 U m (by omega)
    have h3 := h.dU.getD (by decide) m
    have h4 := h.top
    omega
theorem LdI.step {ul V U quo Y' : List Int} {n m : Nat} {q : Int} (h : LdI ul V n (m + 1) U quo) (hV : V.length = n + 2) (dV : Dg 4294967296 V) (hm : m + 1 ≤ ul.length - n - 2) (lY : Y'.length = n + 3) (dY : Dg 4294967296 Y') (q0 : 0 ≤ q) (q1 : q < 4294967296)
    (hq : dv 4294967296 ((U.drop m).take (n + 3)) = q * dv 4294967296 V + dv 4294967296 Y') (hlt : dv 4294967296 Y' < dv 4294967296 V) :
    LdI ul V n m (U.take m ++ (Y' ++ U.drop (m + (n + 3)))) (quo.set m q) := by
  obtain ⟨w1, w2, w3, w4, w5, w6⟩ := h.win hV dV hm
  have hlU := h.lU
  have e1 : (U.take m ++ (Y' ++ U.drop (m + (n + 3)))).drop m = Y' ++ U.drop (m + (n + 3)) := by
    rw [List.drop_append_of_le_length (by omega), List.drop_of_length_le (by omega), List.nil_append]
  have e2 : dv 4294967296 (Y' ++ U.drop (m + (n + 3))) = dv 4294967296 Y' := by rw [dv_append, w5]; omega
  refine ⟨(h.dU.take m).append (dY.append (h.dU.drop _)), by simp; omega, h.dq.set _ q0 q1, by simpa using h.lq, by rw [e1, e2]; exact hlt, ?_⟩
  have e3 := h.val
  rw [dv_append, e2, w2, dv_drop _ (quo.set m q) m (by simp; have := h.lq; omega), drop_set, getD_set_self (by have := h.lq; omega)]
  have e4 : dv 4294967296 U = dv 4294967296 (U.take m) + pw 4294967296 m * (q * dv 4294967296 V + dv 4294967296 Y') := by
    rw [← hq]
    have := dv_split 4294967296 U m (by omega)
    have h2 := dv_split 4294967296 (U.drop m) (n + 3) (by simp; omega)
    rw [List.drop_drop, w5] at h2
    rw [this, h2]
    grind
  rw [e3, e4, pw_succ]
  grind

/-! ### the rest, moved down again -/
theorem dn_num {x y p pp : Int} (hp : 0 < p) (hpp : p * pp = 4294967296) (x0 : 0 ≤ x) (x1 : x < 4294967296) (y0 : 0 ≤ y) : p * ((y * 4294967296 + x) / p % 4294967296) = x - x % p + (y % p) * 4294967296 := by
  have ex := Int.ediv_mul_add_emod x p
  have ey := Int.ediv_mul_add_emod y p
  have rx0 := Int.emod_nonneg x (show p ≠ 0 by omega)
  have rx1 := Int.emod_lt_of_pos x hp
  have ry0 := Int.emod_nonneg y (show p ≠ 0 by omega)
  have ry1 := Int.emod_lt_of_pos y hp
  have qx0 : 0 ≤ x / p := Int.ediv_nonneg x0 (by omega)
  generalize x / p = xq at *
  generalize y / p = yq at *
  generalize x % p = xr at *
  generalize y % p = yr at *
  have hpp0 : 0 < pp := by
    refine Int.lt_of_not_ge fun h => ?_
    have : p * pp ≤ p * 0 := Int.mul_le_mul_of_nonneg_left h (by omega)
    omega
  have qx1 : xq < pp := by
    refine lt_of_mul (c := p) ?_ hp
    rw [Int.mul_comm pp p]
    omega
  have e1 : (y * 4294967296 + x) / p = y * pp + xq := by
    rw [show y * 4294967296 + x = xr + p * (y * pp + xq) by rw [← ex, ← hpp]; grind, Int.add_mul_ediv_left _ _ (by omega), Int.ediv_eq_zero_of_lt rx0 rx1]
    omega
  have b0 : 0 ≤ yr * pp + xq := by
    have := Int.mul_nonneg ry0 (Int.le_of_lt hpp0)
    omega
  have b1 : yr * pp + xq < 4294967296 := by
    have : (yr + 1) * pp ≤ p * pp := Int.mul_le_mul_of_nonneg_right (by omega) (by omega)
    rw [Int.add_mul] at this
    omega
  have e2 : y * pp + xq = yr * pp + xq + 4294967296 * yq := by rw [← ey, ← hpp]; grind
  rw [e1, e2, Int.add_mul_emod_self_left, Int.emod_eq_of_lt b0 b1, ← hpp, ← ex]
  grind
structure DnI (U : List Int) (p : Int) (n i : Nat) (rem : List Int) : Prop where
  dg : Dg 4294967296 rem
  len : rem.length = n + 2
  val : dv 4294967296 (rem.take i) * p + U.getD 0 0 % p = dv 4294967296 (U.take i) + U.getD i 0 % p * pw 4294967296 i
theorem DnI.start (U : List Int) (p : Int) (n : Nat) : DnI U p n 0 (List.replicate (n + 2) 0) :=
  ⟨Dg.replicate (by decide) _, by simp, by simp [dv, pw]⟩
theorem DnI.step {U rem : List Int} {p pp : Int} {n i : Nat} (h : DnI U p n i rem) (dU : Dg 4294967296 U) (hp : 0 < p) (hpp : p * pp = 4294967296) (hi : i < n + 2) :
    DnI U p n (i + 1) (rem.set i ((U.getD (i + 1) 0 * 4294967296 + U.getD i 0) / p % 4294967296)) := by
  have a0 := dU.getD (by decide) i
  have a1 := dU.getD (by decide) (i + 1)
  have e := dn_num hp hpp a0.1 a0.2 a1.1
  refine ⟨h.dg.set _ (Int.emod_nonneg _ (by decide)) (Int.emod_lt_of_pos _ (by decide)), by simpa using h.len, ?_⟩
  have hv := h.val
  rw [dv_take_set (by have := h.len; omega), dv_take_succ', pw_succ]
  generalize (U.getD (i + 1) 0 * 4294967296 + U.getD i 0) / p % 4294967296 = s at *
  have h2 := Int.ediv_mul_add_emod (U.getD i 0) p
  generalize U.getD i 0 % p = ui at *
  generalize U.getD (i + 1) 0 % p = uj at *
  generalize U.getD i 0 = u at *
  generalize U.getD 0 0 % p = u0 at *
  grind
end Go.Proofs.Ytpbhepdgamoiaaa.Db

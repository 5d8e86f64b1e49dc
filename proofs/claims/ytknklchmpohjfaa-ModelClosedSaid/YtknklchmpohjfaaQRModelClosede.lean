/-
  Plain: the step of long division that guesses a digit from the highest digits (base 2^32). A digit of a quotient: the walk of num.digit. How many zero bits a number of 32 bits begins with: the shelf's contract at this program. Limbs divided: what the quotient and the rest come to, a clone of limbs, and the walk of num.divMag. Limbs divided by two limbs and more: the walk of num.divMag, and what it comes to. Limbs divided by two limbs and more: the walk of num.divMag. What the calls of package num do to numbers in memory: QuoRem, Sub, Sign, Int64. Fractions in lowest terms, as whole numbers. Fractions of package num: SetFrac brings two whole numbers to lowest terms. Fractions of package num as rational numbers: NewRat, Mul, Add, Sub, Cmp, IsInt. The sample at a media time: exact numbers held against samples. model.Find: where a track with an Id is.
-/
import Derived.Test.YtknklchmpohjfaaQRModelCloseda
import Derived.Test.YtknklchmpohjfaaQRModelClosedd
import Derived.Outline
import Derived.Deep.DeepCutAuto
import Derived.Deep.CutBlock
import Derived.Shelf.Small.Bits
import Derived.Test.YtknklchmpohjfaaProg
import Derived.Lib.ItoaNum
import Derived.Lib.SliceRun
import Derived.Test.YtknklchmpohjfaaQRModelClosedc
import Derived.Shelf.Abstract
namespace Go.Proofs.Ytknklchmpohjfaa.Nk
open Go.Proofs.YtknklchmpohjfaaW.PrintWords Go.Proofs.Ytknklchmpohjfaa.Ml Go.Proofs.Ytknklchmpohjfaa.Mn
open Go.RowKit (wrap64)
set_option linter.unusedVariables false
theorem mul_mono {a b c d : Int} (h1 : a ≤ b) (h2 : c ≤ d) (h3 : 0 ≤ c) (h4 : 0 ≤ b) : a * c ≤ b * d := Int.le_trans (Int.mul_le_mul_of_nonneg_right h1 h3) (Int.mul_le_mul_of_nonneg_left h2 h4)
theorem lt_of_mul {a b c : Int} (h : a * c < b * c) (hc : 0 < c) : a < b := Int.lt_of_mul_lt_mul_right h (Int.le_of_lt hc)
structure Kn (v1 v2 vl top u2 ul M : Int) : Prop where
 m : 0 < M
 v1a : 2147483648 ≤ v1
 v1b : v1 < 4294967296
 v2a : 0 ≤ v2
 v2b : v2 < 4294967296
 vla : 0 ≤ vl
 vlb : vl < M
 ta : 0 ≤ top
 tb : top < 18446744073709551616
 u2a : 0 ≤ u2
 u2b : u2 < 4294967296
 ula : 0 ≤ ul
 ulb : ul < M
 lt : (top * 4294967296 + u2) * M + ul < ((v1 * 4294967296 + v2) * M + vl) * 4294967296
section
variable {v1 v2 vl top u2 ul M q r : Int}
theorem Kn.top_le (h : Kn v1 v2 vl top u2 ul M) : top < v1 * 4294967296 + 4294967296 := by
 have h1 := h.lt
 have h2 := h.m
 have hv1a := h.v1a
 have hv1b := h.v1b
 have hv2b := h.v2b
 have hvlb := h.vlb
 have hula := h.ula
 have hu2a := h.u2a
 refine Int.lt_of_not_ge fun hc => ?_
 have h3 : (v1 * 4294967296 + 4294967296) * 4294967296 ≤ top * 4294967296 + u2 := by omega
 have h4 := Int.mul_le_mul_of_nonneg_right h3 (Int.le_of_lt h2)
 have h5 : (v1 * 4294967296 + v2 + 1) * M ≤ (v1 * 4294967296 + 4294967296) * M := Int.mul_le_mul_of_nonneg_right (by omega) (Int.le_of_lt h2)
 have h6 : (v1 * 4294967296 + 4294967296) * 4294967296 * M = (v1 * 4294967296 + 4294967296) * M * 4294967296 := by grind
 have h7 : (v1 * 4294967296 + v2 + 1) * M = (v1 * 4294967296 + v2) * M + M := by grind
 generalize (v1 * 4294967296 + v2) * M = A at *
 generalize (v1 * 4294967296 + 4294967296) * M = C at *
 generalize (top * 4294967296 + u2) * M = D at *
 omega
structure Qt (v1 v2 vl top u2 ul M Q : Int) : Prop where
 q0 : 0 ≤ Q
 lo : Q * ((v1 * 4294967296 + v2) * M + vl) ≤ (top * 4294967296 + u2) * M + ul
 hi : (top * 4294967296 + u2) * M + ul < (Q + 1) * ((v1 * 4294967296 + v2) * M + vl)
theorem Kn.v_pos (h : Kn v1 v2 vl top u2 ul M) : 0 < (v1 * 4294967296 + v2) * M + vl := by
 have h1 := h.v1a
 have h2 := h.v2a
 have h3 := h.vla
 have := Int.mul_pos (show 0 < v1 * 4294967296 + v2 by omega) h.m
 omega
theorem Kn.u_nn (h : Kn v1 v2 vl top u2 ul M) : 0 ≤ (top * 4294967296 + u2) * M + ul := by
 have h1 := h.ta
 have h2 := h.u2a
 have h3 := h.ula
 have := Int.mul_nonneg (show 0 ≤ top * 4294967296 + u2 by omega) (Int.le_of_lt h.m)
 omega
theorem Kn.qt (h : Kn v1 v2 vl top u2 ul M) : Qt v1 v2 vl top u2 ul M (((top * 4294967296 + u2) * M + ul) / ((v1 * 4294967296 + v2) * M + vl)) := by
 exact ⟨Int.ediv_nonneg h.u_nn (Int.le_of_lt h.v_pos), Int.ediv_mul_le _ (Int.ne_of_gt h.v_pos), Int.lt_ediv_add_one_mul_self _ h.v_pos⟩
theorem Kn.q_lt (h : Kn v1 v2 vl top u2 ul M) {Q : Int} (hq : Qt v1 v2 vl top u2 ul M Q) : Q < 4294967296 := by
 have h1 := h.lt
 have h2 := hq.lo
 have hv := h.v_pos
 generalize (v1 * 4294967296 + v2) * M + vl = V at *
 refine lt_of_mul (c := V) ?_ hv
 rw [Int.mul_comm 4294967296 V]
 omega
theorem Kn.first (h : Kn v1 v2 vl top u2 ul M) {Q : Int} (hq : Qt v1 v2 vl top u2 ul M Q) : Q ≤ top / v1 := by
 have h1 := hq.lo
 have h2 := h.m
 have h3 : Q * (v1 * 4294967296 * M) ≤ Q * ((v1 * 4294967296 + v2) * M + vl) := by
  refine Int.mul_le_mul_of_nonneg_left ?_ hq.q0
  have h4 : v1 * 4294967296 * M ≤ (v1 * 4294967296 + v2) * M := Int.mul_le_mul_of_nonneg_right (by have := h.v2a; omega) (Int.le_of_lt h2)
  have := h.vla
  omega
 have h4 : (top * 4294967296 + u2) * M + ul < (top + 1) * 4294967296 * M := by
  have h5 : (top * 4294967296 + u2 + 1) * M ≤ (top + 1) * 4294967296 * M := Int.mul_le_mul_of_nonneg_right (by have := h.u2b; omega) (Int.le_of_lt h2)
  have h6 : (top * 4294967296 + u2 + 1) * M = (top * 4294967296 + u2) * M + M := by grind
  have := h.ulb
  omega
 have h5 : Q * v1 * (4294967296 * M) < (top + 1) * (4294967296 * M) := by
  have e1 : Q * v1 * (4294967296 * M) = Q * (v1 * 4294967296 * M) := by grind
  have e2 : (top + 1) * (4294967296 * M) = (top + 1) * 4294967296 * M := by grind
  omega
 have h6 := lt_of_mul h5 (by omega)
 exact (Int.le_ediv_iff_mul_le (by have := h.v1a; omega)).2 (by omega)
theorem Kn.step (h : Kn v1 v2 vl top u2 ul M) {Q : Int} (hq : Qt v1 v2 vl top u2 ul M Q) (hqr : q * v1 + r = top) (h0 : Q ≤ q) (ht : 4294967296 ≤ q ∨ r * 4294967296 + u2 < q * v2) : Q ≤ q - 1 := by
 rcases ht with ht | ht
 ·have := h.q_lt hq
  omega
 ·have hq0 := hq.q0
  have h1 := h.m
  have h2 : q * (v1 * 4294967296 + v2) ≥ top * 4294967296 + u2 + 1 := by
   have e : q * (v1 * 4294967296 + v2) = (q * v1) * 4294967296 + q * v2 := by grind
   rw [e]
   generalize q * v2 = a at *
   generalize q * v1 = b at *
   omega
  have h3 : (top * 4294967296 + u2 + 1) * M ≤ q * (v1 * 4294967296 + v2) * M := Int.mul_le_mul_of_nonneg_right h2 (Int.le_of_lt h1)
  have h4 : q * (v1 * 4294967296 + v2) * M ≤ q * ((v1 * 4294967296 + v2) * M + vl) := by
   have e : q * ((v1 * 4294967296 + v2) * M + vl) = q * (v1 * 4294967296 + v2) * M + q * vl := by grind
   have := Int.mul_nonneg (show 0 ≤ q by omega) h.vla
   omega
  have h5 : (top * 4294967296 + u2 + 1) * M = (top * 4294967296 + u2) * M + M := by grind
  have h6 := hq.lo
  have h7 := h.ulb
  have hv := h.v_pos
  generalize (v1 * 4294967296 + v2) * M + vl = V at *
  have h8 : Q * V < q * V := by omega
  have := lt_of_mul h8 hv
  omega
theorem Kn.pass (h : Kn v1 v2 vl top u2 ul M) {Q : Int} (hq : Qt v1 v2 vl top u2 ul M Q) (hqr : q * v1 + r = top) (h0 : Q ≤ q) (h1 : q < 4294967296) (hr : 0 ≤ r) (ht : 4294967296 ≤ r ∨ q * v2 ≤ r * 4294967296 + u2) : q ≤ Q + 1 := by
 have hq0 := hq.q0
 have h2 : q * (v1 * 4294967296 + v2) ≤ top * 4294967296 + u2 := by
  have e : q * (v1 * 4294967296 + v2) = (q * v1) * 4294967296 + q * v2 := by grind
  have h3 : q * v2 ≤ r * 4294967296 + u2 := by
   rcases ht with ht | ht
   ·have h4 : q * v2 ≤ 4294967295 * 4294967295 := mul_mono (by omega) (by have := h.v2b; omega) h.v2a (by omega)
    have := h.u2a
    omega
   ·exact ht
  rw [e]
  generalize q * v2 = a at *
  generalize q * v1 = b at *
  omega
 refine Int.le_of_not_gt fun hc => ?_
 have h3 : (Q + 1) * ((v1 * 4294967296 + v2) * M + vl) ≤ (q - 1) * ((v1 * 4294967296 + v2) * M + vl) := Int.mul_le_mul_of_nonneg_right (by omega) (Int.le_of_lt h.v_pos)
 have h4 : (q - 1) * ((v1 * 4294967296 + v2) * M + vl) ≤ (q - 1) * ((v1 * 4294967296 + v2) * M + M) := Int.mul_le_mul_of_nonneg_left (by have := h.vlb; omega) (by omega)
 have h5 : (q - 1) * ((v1 * 4294967296 + v2) * M + M) = (q * (v1 * 4294967296 + v2) + (q - 1 - (v1 * 4294967296 + v2))) * M := by grind
 have h6 : (q * (v1 * 4294967296 + v2) + (q - 1 - (v1 * 4294967296 + v2))) * M ≤ (top * 4294967296 + u2) * M := Int.mul_le_mul_of_nonneg_right (by have := h.v1a; have := h.v2a; omega) (Int.le_of_lt h.m)
 have h7 := hq.hi
 have h8 := h.ula
 omega
theorem Kn.small (h : Kn v1 v2 vl top u2 ul M) (hqr : q * v1 + r = top) (hr : 4294967296 ≤ r) : q < 4294967296 := by
 have h1 := h.top_le
 have h2 := h.v1a
 refine lt_of_mul (c := v1) ?_ (by omega)
 rw [Int.mul_comm 4294967296 v1]
 omega
theorem Kn.left (h : Kn v1 v2 vl top u2 ul M) {Q : Int} (hq : Qt v1 v2 vl top u2 ul M Q) (h0 : Q ≤ q) (h1 : q ≤ Q + 1) :
  -((v1 * 4294967296 + v2) * M + vl) ≤ (top * 4294967296 + u2) * M + ul - q * ((v1 * 4294967296 + v2) * M + vl) ∧ (top * 4294967296 + u2) * M + ul - q * ((v1 * 4294967296 + v2) * M + vl) < (v1 * 4294967296 + v2) * M + vl := by
 have h2 := hq.lo
 have h3 := hq.hi
 generalize (v1 * 4294967296 + v2) * M + vl = V at *
 generalize (top * 4294967296 + u2) * M + ul = U at *
 rcases (show q = Q ∨ q = Q + 1 by omega) with e | e
 ·subst e
  rw [Int.add_mul] at h3
  omega
 ·subst e
  rw [Int.add_mul] at h3 ⊢
  omega
end
theorem dv_top (l : List Int) (n : Nat) (hl : l.length = n + 2) : dv 4294967296 l = (l.getD (n + 1) 0 * 4294967296 + l.getD n 0) * pw 4294967296 n + dv 4294967296 (l.take n) := by
 have h1 := dv_take_succ 4294967296 l (n + 1) (by omega)
 have h2 := dv_take_succ 4294967296 l n (by omega)
 rw [List.take_of_length_le (by omega), pw_succ] at h1
 rw [h1, h2]
 grind
theorem Kn.of (v u : List Int) (n : Nat) (hv : v.length = n + 2) (hu : u.length = n + 3) (dv_ : Dg 4294967296 v) (du : Dg 4294967296 u) (ht : 2147483648 ≤ v.getD (n + 1) 0) (hlt : dv 4294967296 u < dv 4294967296 v * 4294967296) :
  Kn (v.getD (n + 1) 0) (v.getD n 0) (dv 4294967296 (v.take n)) (u.getD (n + 2) 0 * 4294967296 + u.getD (n + 1) 0) (u.getD n 0) (dv 4294967296 (u.take n)) (pw 4294967296 n) ∧
  dv 4294967296 v = (v.getD (n + 1) 0 * 4294967296 + v.getD n 0) * pw 4294967296 n + dv 4294967296 (v.take n) ∧
  dv 4294967296 u = ((u.getD (n + 2) 0 * 4294967296 + u.getD (n + 1) 0) * 4294967296 + u.getD n 0) * pw 4294967296 n + dv 4294967296 (u.take n) := by
 have e1 := dv_top v n hv
 have e2 : dv 4294967296 u = ((u.getD (n + 2) 0 * 4294967296 + u.getD (n + 1) 0) * 4294967296 + u.getD n 0) * pw 4294967296 n + dv 4294967296 (u.take n) := by
  have h1 := dv_take_succ 4294967296 u (n + 2) (by omega)
  have h2 := dv_take_succ 4294967296 u (n + 1) (by omega)
  have h3 := dv_take_succ 4294967296 u n (by omega)
  rw [List.take_of_length_le (by omega), pw_succ, pw_succ] at h1
  rw [pw_succ] at h2
  rw [h1, h2, h3]
  grind
 have a1 := dv_.getD (by decide) (n + 1)
 have a2 := dv_.getD (by decide) n
 have a3 := du.getD (by decide) (n + 2)
 have a4 := du.getD (by decide) (n + 1)
 have a5 := du.getD (by decide) n
 have b1 := dv_nonneg (by decide) (dv_.take n)
 have b2 := dv_lt (by decide) (dv_.take n)
 have b3 := dv_nonneg (by decide) (du.take n)
 have b4 := dv_lt (by decide) (du.take n)
 rw [List.length_take, Nat.min_eq_left (by omega)] at b2 b4
 refine ⟨⟨pow_pos (by decide) n, ht, a1.2, a2.1, a2.2, b1, b2, by omega, by omega, a5.1, a5.2, b3, b4, ?_⟩, e1, e2⟩
 rw [← e1, ← e2]
 exact hlt
end Go.Proofs.Ytknklchmpohjfaa.Nk
namespace Go.Proofs.Ytknklchmpohjfaa.Ng
open Go.RowKit Go Go.Proofs.YtknklchmpohjfaaW.PrintWords Go.Proofs.YtknklchmpohjfaaW.PrintLast Go.Proofs.YtknklchmpohjfaaW.PrintMore Go.Proofs.Ytknklchmpohjfaa.Ml Go.Proofs.Ytknklchmpohjfaa.Mn Go.Proofs.Ytknklchmpohjfaa.Nd Go.Proofs.Ytknklchmpohjfaa.Z Go.Proofs.Ytknklchmpohjfaa.P Go.Proofs.Ytknklchmpohjfaa.Nc Go.Proofs.Ytknklchmpohjfaa.Ns Go.Proofs.Ytknklchmpohjfaa.Nk
set_option linter.unusedVariables false
set_option linter.unusedSimpArgs false
theorem getD_app {P Y Z : List Int} (i : Nat) (hi : i < Y.length) : (P ++ (Y ++ Z)).getD (P.length + i) 0 = Y.getD i 0 := by
 simp [List.getD_eq_getElem?_getD, List.getElem?_append_right (Nat.le_add_right _ _), List.getElem?_append_left hi]
theorem set_app {P Y Z : List Int} (i : Nat) (v : Int) (hi : i < Y.length) : (P ++ (Y ++ Z)).set (P.length + i) v = P ++ (Y.set i v ++ Z) := by
 rw [List.set_append_right _ _ (Nat.le_add_right _ _), Nat.add_sub_cancel_left, List.set_append_left _ _ hi]
structure Two (w0 W : World) (gu gv N cu n cv : Nat) (P Z Y V : List Int) : Prop where
 u : Kd.R (Kd.int .u32) 147 W 0 (fun _ => True) (.slice (some ⟨gu, 0, none⟩) N cu) (P ++ (Y ++ Z))
 v : Kd.R (Kd.int .u32) 147 W 0 (fun _ => True) (.slice (some ⟨gv, 0, none⟩) n cv) V
 g : w0.grownBy W (some gu)
theorem Two.drewN {w0 W : World} {gu gv N cu n cv : Nat} {P Z Y V : List Int} (h : Two w0 W gu gv N cu n cv P Z Y V) (m : Nat) : Two w0 (W.drewN m) gu gv N cu n cv P Z Y V :=
 ⟨Kd.R_drewN h.u m, Kd.R_drewN h.v m, h.g.trans (grown_of_below (pw_below_drewN (Below.refl _ _) m) _)⟩
theorem Two.ucell {w0 W : World} {gu gv N cu n cv : Nat} {P Z Y V : List Int} (h : Two w0 W gu gv N cu n cv P Z Y V) (i : Nat) (hi : i < Y.length) : W.cell? ⟨gu, P.length + i, none⟩ = some (.int .u32 (Y.getD i 0)) ∧ W.frozen? ⟨gu, P.length + i, none⟩ = false := by
 have h1 := Kd.R_reads' h.u
 have := own_cell h.u (P.length + i) (by rw [h1.1]; simp; omega)
 rwa [getD_app i hi] at this
theorem Two.vcell {w0 W : World} {gu gv N cu n cv : Nat} {P Z Y V : List Int} (h : Two w0 W gu gv N cu n cv P Z Y V) (i : Nat) (hi : i < n) : W.cell? ⟨gv, i, none⟩ = some (.int .u32 (V.getD i 0)) := (own_cell h.v i hi).1
theorem Two.put {w0 W : World} {gu gv N cu n cv : Nat} {P Z Y V : List Int} (h : Two w0 W gu gv N cu n cv P Z Y V) (hne : gv ≠ gu) (i : Nat) (hi : i < Y.length) (x : Int) : Two w0 (W.setCell ⟨gu, P.length + i, none⟩ (.int .u32 x)) gu gv N cu n cv P Z (Y.set i x) V := by
 refine ⟨?_, ?_, ?_⟩
 ·have := own_put h.u (P.length + i) x
  rwa [set_app i x hi] at this
 ·refine Kd.R_mono (ok := fun k => k = gv) (Kd.R_far (p := ⟨gu, P.length + i, none⟩) (Kd.R_mono (Kd.R_tight rfl h.v) (fun k hk => ?_)) (fun k hk => ?_) _) (fun _ _ => trivial)
  ·simpa [Value.ownBlock] using hk
  ·rw [hk]; exact hne
 ·have := (Kd.R_putg h.u ((P.length + i : Nat) : Int) x).2
  rw [Int.toNat_natCast] at this
  exact h.g.trans this
structure GsI (V Y : List Int) (n : Nat) (Q q r : Int) : Prop where
 qr : q * V.getD (n + 1) 0 + r = Y.getD (n + 2) 0 * 4294967296 + Y.getD (n + 1) 0
 le : Q ≤ q
 r0 : 0 ≤ r
def GsP (V Y : List Int) (q : Int) : Prop := 0 ≤ q ∧ q < 4294967296 ∧ -dv 4294967296 V ≤ dv 4294967296 Y - q * dv 4294967296 V ∧ dv 4294967296 Y - q * dv 4294967296 V < dv 4294967296 V
abbrev KnO (V Y : List Int) (n : Nat) : Prop := Kn (V.getD (n + 1) 0) (V.getD n 0) (dv 4294967296 (V.take n)) (Y.getD (n + 2) 0 * 4294967296 + Y.getD (n + 1) 0) (Y.getD n 0) (dv 4294967296 (Y.take n)) (pw 4294967296 n)
abbrev QtO (V Y : List Int) (n : Nat) (Q : Int) : Prop := Qt (V.getD (n + 1) 0) (V.getD n 0) (dv 4294967296 (V.take n)) (Y.getD (n + 2) 0 * 4294967296 + Y.getD (n + 1) 0) (Y.getD n 0) (dv 4294967296 (Y.take n)) (pw 4294967296 n) Q
theorem GsI.next {V Y : List Int} {n : Nat} {Q q r : Int} (h : GsI V Y n Q q r) (hK : KnO V Y n) (hQ : QtO V Y n Q) (ht : 4294967296 ≤ q ∨ r * 4294967296 + Y.getD n 0 < q * V.getD n 0) : GsI V Y n Q (q - 1) (r + V.getD (n + 1) 0) ∧ 1 ≤ q := by
 have h1 := hK.step hQ h.qr h.le ht
 have h2 := hQ.q0
 refine ⟨⟨?_, h1, by have := h.r0; have := hK.v1a; omega⟩, by omega⟩
 have := h.qr
 rw [← this]
 grind
theorem GsI.done {V Y : List Int} {n : Nat} {Q q r : Int} (h : GsI V Y n Q q r) (hK : KnO V Y n) (hQ : QtO V Y n Q)
  (hS : dv 4294967296 V = (V.getD (n + 1) 0 * 4294967296 + V.getD n 0) * pw 4294967296 n + dv 4294967296 (V.take n) ∧ dv 4294967296 Y = ((Y.getD (n + 2) 0 * 4294967296 + Y.getD (n + 1) 0) * 4294967296 + Y.getD n 0) * pw 4294967296 n + dv 4294967296 (Y.take n))
  (ht : 4294967296 ≤ r ∨ (q < 4294967296 ∧ q * V.getD n 0 ≤ r * 4294967296 + Y.getD n 0)) : GsP V Y q := by
 have h2 := hQ.q0
 have h3 := h.le
 have h4 : q < 4294967296 := by
  rcases ht with ht | ht
  ·exact hK.small h.qr ht
  ·exact ht.1
 have h5 := hK.pass hQ h.qr h3 h4 h.r0 (ht.imp id And.right)
 have h6 := hK.left hQ h3 h5
 rw [← hS.1, ← hS.2] at h6
 exact ⟨by omega, h4, h6⟩
structure SbI (V Y0 : List Int) (q : Int) (i : Nat) (c b : Int) (Y : List Int) : Prop where
 c0 : 0 ≤ c
 c1 : c < 4294967296
 b0 : 0 ≤ b
 b1 : b ≤ 1
 dg : Dg 4294967296 Y
 len : Y.length = Y0.length
 val : dv 4294967296 (Y.take i) - (c + b) * pw 4294967296 i = dv 4294967296 (Y0.take i) - q * dv 4294967296 (V.take i)
 same : ∀ m, i ≤ m → Y.getD m 0 = Y0.getD m 0
theorem take_set {l : List Int} {i : Nat} {v : Int} : (l.set i v).take i = l.take i := by
 rw [List.take_set]
 exact List.set_eq_of_length_le (by simp; omega)
theorem dv_take_set {l : List Int} {i : Nat} {v : Int} (hi : i < l.length) : dv 4294967296 ((l.set i v).take (i + 1)) = dv 4294967296 (l.take i) + v * pw 4294967296 i := by
 rw [dv_take_succ', take_set, getD_set_self hi]
theorem sb_num {u x b : Int} (hu0 : 0 ≤ u) (hu1 : u < 4294967296) (hx : 0 ≤ x) (hb0 : 0 ≤ b) (hb1 : b ≤ 1) :
  ∃ r b', IntKind.u64.wrap (IntKind.u64.wrap (u - x % 4294967296) - b) % 4294967296 = r ∧ IntKind.u64.wrap (IntKind.u64.wrap (u - x % 4294967296) - b) / 9223372036854775808 = b' ∧ 0 ≤ r ∧ r < 4294967296 ∧ 0 ≤ b' ∧ b' ≤ 1 ∧ u - x % 4294967296 - b = r - 4294967296 * b' := by
 rw [u64m, u64m]
 exact ⟨_, _, rfl, rfl, by omega, by omega, by omega, by omega, by omega⟩
theorem SbI.step {V Y0 Y : List Int} {q c b : Int} {i : Nat} (h : SbI V Y0 q i c b Y) (hV : Dg 4294967296 V) (hq0 : 0 ≤ q) (hq1 : q < 4294967296) (hi : i < Y.length) :
  SbI V Y0 q (i + 1) ((c + q * V.getD i 0) / 4294967296) (IntKind.u64.wrap (IntKind.u64.wrap (Y.getD i 0 - (c + q * V.getD i 0) % 4294967296) - b) / 9223372036854775808)
   (Y.set i (IntKind.u64.wrap (IntKind.u64.wrap (Y.getD i 0 - (c + q * V.getD i 0) % 4294967296) - b) % 4294967296)) := by
 have h1 := hV.getD (by decide) i
 have h2 := h.dg.getD (by decide) i
 have h3 := mul_lt_sq hq0 hq1 h1.1 h1.2
 have c0 := h.c0
 have c1 := h.c1
 obtain ⟨x, hx⟩ : ∃ x, x = c + q * V.getD i 0 := ⟨_, rfl⟩
 rw [← hx]
 have hx0 : 0 ≤ x := by omega
 have hx1 : x ≤ 18446744069414584320 := by omega
 obtain ⟨r, b', hr, hb, r0, r1, b0, b1, he⟩ := sb_num h2.1 h2.2 hx0 h.b0 h.b1
 rw [hr, hb]
 refine ⟨by omega, by omega, b0, b1, h.dg.set _ r0 r1, by simpa using h.len, ?_, fun m hm => by rw [getD_set (by omega)]; exact h.same m (by omega)⟩
 rw [dv_take_set hi, dv_take_succ', dv_take_succ', pw_succ, ← h.same i (Nat.le_refl _)]
 have h4 := h.val
 have h5 : x % 4294967296 = x - 4294967296 * (x / 4294967296) := by omega
 rw [h5] at he
 generalize x / 4294967296 = xq at he ⊢
 generalize Y.getD i 0 = u at he ⊢
 generalize V.getD i 0 = y at hx ⊢
 have hr2 : r = u - x + 4294967296 * xq - b + 4294967296 * b' := by omega
 rw [hr2, hx]
 grind
structure AbI (V Y1 : List Int) (i : Nat) (c : Int) (Y : List Int) : Prop where
 c0 : 0 ≤ c
 c1 : c ≤ 1
 dg : Dg 4294967296 Y
 len : Y.length = Y1.length
 val : dv 4294967296 (Y.take i) + c * pw 4294967296 i = dv 4294967296 (Y1.take i) + dv 4294967296 (V.take i)
 same : ∀ m, i ≤ m → Y.getD m 0 = Y1.getD m 0
theorem AbI.step {V Y1 Y : List Int} {c : Int} {i : Nat} (h : AbI V Y1 i c Y) (hV : Dg 4294967296 V) (hi : i < Y.length) :
  AbI V Y1 (i + 1) ((c + (Y.getD i 0 + V.getD i 0)) / 4294967296) (Y.set i ((c + (Y.getD i 0 + V.getD i 0)) % 4294967296)) := by
 have h1 := hV.getD (by decide) i
 have h2 := h.dg.getD (by decide) i
 have c0 := h.c0
 have c1 := h.c1
 obtain ⟨x, hx⟩ : ∃ x, x = c + (Y.getD i 0 + V.getD i 0) := ⟨_, rfl⟩
 rw [← hx]
 refine ⟨by omega, by omega, h.dg.set _ (by omega) (by omega), by simpa using h.len, ?_, fun m hm => by rw [getD_set (by omega)]; exact h.same m (by omega)⟩
 rw [dv_take_set hi, dv_take_succ', dv_take_succ', pw_succ, ← h.same i (Nat.le_refl _)]
 have h4 := h.val
 have h5 : x % 4294967296 = x - 4294967296 * (x / 4294967296) := by omega
 rw [h5]
 generalize x / 4294967296 = xq
 rw [hx]
 grind
theorem SbI.top {V Y0 Y : List Int} {q c b : Int} {n : Nat} (h : SbI V Y0 q (n + 2) c b Y) (hV : V.length = n + 2) (hY : Y0.length = n + 3) :
  dv 4294967296 (Y.take (n + 2)) + (Y.getD (n + 2) 0 - c - b) * pw 4294967296 (n + 2) = dv 4294967296 Y0 - q * dv 4294967296 V := by
 have h1 := h.val
 have h2 := dv_take_succ' 4294967296 Y0 (n + 2)
 rw [List.take_of_length_le (show Y0.length ≤ n + 2 + 1 by omega)] at h2
 rw [List.take_of_length_le (show V.length ≤ n + 2 by omega)] at h1
 rw [h2, h.same (n + 2) (Nat.le_refl _)]
 grind
theorem SbI.two {V Y0 Y : List Int} {q c b : Int} {n : Nat} (h : SbI V Y0 q (n + 2) c b Y) (hV : V.length = n + 2) (hY : Y0.length = n + 3) (dV : Dg 4294967296 V) (hP : GsP V Y0 q) :
  (Y.getD (n + 2) 0 - c - b = 0 ∧ 0 ≤ dv 4294967296 Y0 - q * dv 4294967296 V) ∨ (Y.getD (n + 2) 0 - c - b = -1 ∧ dv 4294967296 Y0 - q * dv 4294967296 V < 0) := by
 have h1 := h.top hV hY
 have h2 := dv_nonneg (by decide) (h.dg.take (n + 2))
 have h3 := dv_lt (by decide) (h.dg.take (n + 2))
 have h4 := dv_lt (by decide) dV
 have h5 := pow_pos (B := 4294967296) (by decide) (n + 2)
 rw [List.length_take, Nat.min_eq_left (by have := h.len; omega)] at h3
 rw [hV] at h4
 have h6 := hP.2.2
 generalize dv 4294967296 Y0 - q * dv 4294967296 V = T at *
 generalize Y.getD (n + 2) 0 - c - b = e at *
 generalize dv 4294967296 (Y.take (n + 2)) = D at *
 generalize pw 4294967296 (n + 2) = M at *
 have h7 : e = 0 ∨ e = -1 ∨ 1 ≤ e ∨ e ≤ -2 := by omega
 rcases h7 with h7 | h7 | h7 | h7
 ·subst h7
  left
  omega
 ·subst h7
  right
  omega
 ·have := Int.mul_le_mul_of_nonneg_right h7 (Int.le_of_lt h5)
  omega
 ·have := Int.mul_le_mul_of_nonneg_right h7 (Int.le_of_lt h5)
  omega
theorem SbI.fin {V Y0 Y : List Int} {q c b : Int} {n : Nat} (h : SbI V Y0 q (n + 2) c b Y) (hV : V.length = n + 2) (hY : Y0.length = n + 3) (hP : GsP V Y0 q) (he : Y.getD (n + 2) 0 - c - b = 0) :
  (Y.set (n + 2) 0).length = n + 3 ∧ Dg 4294967296 (Y.set (n + 2) 0) ∧ dv 4294967296 Y0 = q * dv 4294967296 V + dv 4294967296 (Y.set (n + 2) 0) ∧ dv 4294967296 (Y.set (n + 2) 0) < dv 4294967296 V := by
 have h1 := h.top hV hY
 have h2 := dv_take_set (l := Y) (i := n + 2) (v := 0) (by have := h.len; omega)
 rw [List.take_of_length_le (by have := h.len; simp; omega)] at h2
 rw [he] at h1
 have h6 := hP.2.2
 refine ⟨by have := h.len; simp; omega, h.dg.set _ (by omega) (by omega), by omega, by omega⟩
theorem AbI.fin {V Y0 Y Y1 : List Int} {q c : Int} {n : Nat} (h : AbI V Y1 (n + 2) c Y) (hV : V.length = n + 2) (hY1 : Y1.length = n + 3) (hP : GsP V Y0 q) (hT : dv 4294967296 Y0 - q * dv 4294967296 V < 0) (h1 : dv 4294967296 (Y1.take (n + 2)) - pw 4294967296 (n + 2) = dv 4294967296 Y0 - q * dv 4294967296 V) :
  c = 1 ∧ (Y.set (n + 2) 0).length = n + 3 ∧ Dg 4294967296 (Y.set (n + 2) 0) ∧ dv 4294967296 Y0 = (q - 1) * dv 4294967296 V + dv 4294967296 (Y.set (n + 2) 0) ∧ dv 4294967296 (Y.set (n + 2) 0) < dv 4294967296 V := by
 have h2 := h.val
 rw [List.take_of_length_le (show V.length ≤ n + 2 by omega)] at h2
 have h3 := dv_take_set (l := Y) (i := n + 2) (v := 0) (by have := h.len; omega)
 rw [List.take_of_length_le (by have := h.len; simp; omega)] at h3
 have h4 := dv_lt (by decide) (h.dg.take (n + 2))
 rw [List.length_take, Nat.min_eq_left (by have := h.len; omega)] at h4
 have h6 := hP.2.2
 have c0 := h.c0
 have c1 := h.c1
 have hc : c = 1 := by
  rcases (show c = 0 ∨ c = 1 by omega) with e | e
  ·rw [e] at h2
   omega
  ·exact e
 rw [hc] at h2
 have e1 : (q - 1) * dv 4294967296 V = q * dv 4294967296 V - dv 4294967296 V := by grind
 refine ⟨hc, by have := h.len; simp; omega, h.dg.set _ (by omega) (by omega), by rw [e1]; omega, by omega⟩
def DigP (w0 : World) (gu gv N cu n cv : Nat) (P Z Y V : List Int) (e : Ending) (w' : World) : Prop := ∃ q Y', e = .returned (.int .u32 q) ∧ Two w0 w' gu gv N cu (n + 2) cv P Z Y' V ∧ Y'.length = n + 3 ∧ Dg 4294967296 Y' ∧ 0 ≤ q ∧ q < 4294967296 ∧ dv 4294967296 Y = q * dv 4294967296 V + dv 4294967296 Y' ∧ dv 4294967296 Y' < dv 4294967296 V
set_option maxHeartbeats 8000000 in
set_option maxRecDepth 100000 in
theorem digit_n (w0 W : World) (gu gv N cu cv n c2 : Nat) (P Z Y V : List Int) (hne : gv ≠ gu) (H2 : Two w0 W gu gv N cu (n + 2) cv P Z Y V) (hV : V.length = n + 2) (hY : Y.length = n + 3) (dV : Dg 4294967296 V) (dY : Dg 4294967296 Y) (htop : 2147483648 ≤ V.getD (n + 1) 0) (hlt : dv 4294967296 Y < dv 4294967296 V * 4294967296) (hn : n ≤ 1000000) (hP : P.length ≤ 1000000) :
  Calls Try.prog 118 #[.slice (some ⟨gu, P.length, none⟩) (n + 3) c2, .slice (some ⟨gv, 0, none⟩) (n + 2) cv] W (DigP w0 gu gv N cu n cv P Z Y V) := by
 obtain ⟨hK, eV, eY⟩ := Kn.of V Y n hV hY dV dY htop hlt
 obtain ⟨Q, hQ⟩ : ∃ Q, Qt (V.getD (n + 1) 0) (V.getD n 0) (dv 4294967296 (V.take n)) (Y.getD (n + 2) 0 * 4294967296 + Y.getD (n + 1) 0) (Y.getD n 0) (dv 4294967296 (Y.take n)) (pw 4294967296 n) Q := ⟨_, hK.qt⟩
 have u0 := (H2.ucell (n + 2) (by omega)).1
 have u1 := (H2.ucell (n + 1) (by omega)).1
 have v1 := H2.vcell (n + 1) (by omega)
 have b0 := dY.getD (by decide) (n + 2)
 have b1 := dY.getD (by decide) (n + 1)
 have b2 := dV.getD (by decide) (n + 1)
 generalize hy2 : Y.getD (n + 2) 0 = y2 at u0 b0
 generalize hy1 : Y.getD (n + 1) 0 = y1 at u1 b1
 generalize hv1 : V.getD (n + 1) 0 = x1 at v1 b2 htop
 obtain ⟨b00, b01⟩ := b0
 obtain ⟨b10, b11⟩ := b1
 obtain ⟨b20, b21⟩ := b2
 have hor : bits BinOp.or IntKind.u64 (y2 * 4294967296) y1 = y2 * 4294967296 + y1 := or_high _ _ 32 (by omega) (by omega) (by omega) b10 (by omega) (by omega)
 have HE := Aside0.mk (And.intro hy2 (And.intro hy1 hv1))
 have HK := Aside0.mk hK
 have HQ := Aside0.mk hQ
 have HS := Aside0.mk (And.intro eV eY)
 have HD := Aside0.mk (And.intro dV (And.intro dY (And.intro hV hY)))
 have HT := Aside0.mk H2
 clear hy2 hy1 hv1 hK hQ eV eY dV dY hV hY H2 hlt
 go_enter Try.func118, Try.ntmps118
 go_wp2_with fail
 go_quiet (fail)
 go_wp2_with fail
 go_quiet (fail)
 generalize hq : World.drewN (World.drewN W _) _ = W1
 have HT1 := Aside0.mk (show Two w0 W1 gu gv N cu (n + 2) cv P Z Y V by rw [← hq]; exact (HT.out.drewN _).drewN _)
 clear hq HT u0 u1 v1
 go_upto_block 0 with fail
 go_cut [7] (fun q w' => ∃ z : Int, q = .int .u64 z ∧ Aside0 (GsP V Y z) ∧ Aside0 (Two w0 w' gu gv N cu (n + 2) cv P Z Y V))
 case first =>
  have hx1 : 0 < x1 := by omega
  have htt : 0 ≤ y2 * 4294967296 + y1 := by omega
  have e0 : 0 ≤ (y2 * 4294967296 + y1) / x1 := Int.ediv_nonneg htt (by omega)
  have hfirst := HK.out.first HQ.out
  rw [HE.out.1, HE.out.2.1, HE.out.2.2] at hfirst
  have hrem0 := Int.emod_nonneg (y2 * 4294967296 + y1) (show x1 ≠ 0 by omega)
  have hrem1 := Int.emod_lt_of_pos (y2 * 4294967296 + y1) hx1
  have hrem2 := Int.ediv_mul_add_emod (y2 * 4294967296 + y1) x1
  have HI0 := Aside0.mk (show GsI V Y n Q ((y2 * 4294967296 + y1) / x1) ((y2 * 4294967296 + y1) % x1) from ⟨by rw [HE.out.1, HE.out.2.1, HE.out.2.2]; exact hrem2, hfirst, hrem0⟩)
  have HR0 := Aside0.mk (show (y2 * 4294967296 + y1) % x1 < 4294967296 by omega)
  have HE0 := Aside0.mk (show (((((y2 * 4294967296 + y1) / x1).toNat : Nat) : Int)) = (y2 * 4294967296 + y1) / x1 by omega)
  clear hfirst hrem0 hrem1 hrem2 e0
  have c0 := HD.out.2.1.getD (by decide) n
  have c1 := HD.out.1.getD (by decide) n
  generalize hx2 : V.getD n 0 = x2 at c1
  generalize hy0 : Y.getD n 0 = y0 at c0
  have HF := Aside0.mk (And.intro hx2 hy0)
  clear hx2 hy0
  obtain ⟨c00, c01⟩ := c0
  obtain ⟨c10, c11⟩ := c1
  go_wp2_with fail
  go_loopg [7, 8] ((y2 * 4294967296 + y1) / x1).toNat (fun kq v7 v8 w' => ∃ q r : Int, v7 = .int .u64 q ∧ v8 = .int .u64 r ∧ Aside0 ((kq : Int) = q) ∧ Aside0 (GsI V Y n Q q r) ∧ Aside0 (r < 4294967296) ∧ Aside0 (Two w0 w' gu gv N cu (n + 2) cv P Z Y V))
  case atStart =>
   exact ⟨_, _, rfl, rfl, HE0, HI0, HR0, HT1⟩
  case round =>
   clear HI0 HE0 HT1 HR0
   obtain ⟨q, r, rfl, rfl, HKq, HI, HR, HT1⟩ := hrel
   have v1 := HT1.out.vcell (n + 1) (by omega)
   rw [HE.out.2.2] at v1
   have v2 := HT1.out.vcell n (by omega)
   rw [HF.out.1] at v2
   have u2 := (HT1.out.ucell n (by rw [HD.out.2.2.2]; omega)).1
   rw [HF.out.2] at u2
   have r0 := HI.out.r0
   have r1 := HR.out
   have q0 : 0 ≤ q := Int.le_trans HQ.out.q0 HI.out.le
   have hqr := HI.out.qr
   rw [HE.out.1, HE.out.2.1, HE.out.2.2] at hqr
   have qx : q ≤ q * x1 := by
    have := Int.mul_le_mul_of_nonneg_left (show 1 ≤ x1 by omega) q0
    omega
   have q1 : q < 18446744073709551616 := by omega
   clear qx hqr
   have HK1 := Aside0.mk (show (KnO V Y n) ∧ QtO V Y n Q from ⟨HK.out, HQ.out⟩)
   have hgo : 4294967296 ≤ q ∨ ¬ 4294967296 ≤ q := by omega
   by_cases hr : 4294967296 ≤ r + x1
   ·have hgr : decide (0 < (r + x1) / 4294967296) = true := decide_eq_true (by omega)
    rcases hgo with hq | hq
    ·obtain ⟨hI, h1q⟩ := HI.out.next HK1.out.1 HK1.out.2 (.inl hq)
     have HD2 := Aside0.mk (hI.done HK1.out.1 HK1.out.2 HS.out (.inl (by rw [HE.out.2.2]; exact hr)))
     have hg : decide (0 < q / 4294967296) = true := decide_eq_true (by omega)
     clear hI
     go_wp2_with fail
     go_quiet (fail)
     go_wp2_with fail
     go_meet
     exact ⟨q - 1, rfl, HD2, ⟨HT1.out.drewN _⟩⟩
    ·have hg : decide (0 < q / 4294967296) = false := decide_eq_false (by omega)
     have hp := mul_lt_sq q0 (show q < 4294967296 by omega) c10 c11
     obtain ⟨hp0, hp1⟩ := hp
     have hor2 : bits BinOp.or IntKind.u64 (r * 4294967296) y0 = r * 4294967296 + y0 := or_high _ _ 32 (by omega) (by omega) (by omega) c00 (by omega) (by omega)
     by_cases ht : r * 4294967296 + y0 < q * x2
     ·obtain ⟨hI, h1q⟩ := HI.out.next HK1.out.1 HK1.out.2 (.inr (by rw [HF.out.1, HF.out.2]; exact ht))
      have HD2 := Aside0.mk (hI.done HK1.out.1 HK1.out.2 HS.out (.inl (by rw [HE.out.2.2]; exact hr)))
      clear hI
      go_wp2_with fail
      go_quiet (fail)
      go_wp2_with fail
      go_meet
      exact ⟨q - 1, rfl, HD2, ⟨HT1.out.drewN _⟩⟩
     ·have HD2 := Aside0.mk (HI.out.done HK1.out.1 HK1.out.2 HS.out (.inr ⟨by omega, by rw [HF.out.1, HF.out.2]; omega⟩))
      go_wp2_with fail
      go_quiet (fail)
      go_wp2_with fail
      go_meet
      exact ⟨q, rfl, HD2, ⟨HT1.out.drewN _⟩⟩
   ·have hgr : decide (0 < (r + x1) / 4294967296) = false := decide_eq_false (by omega)
    rcases hgo with hq | hq
    ·obtain ⟨hI, h1q⟩ := HI.out.next HK1.out.1 HK1.out.2 (.inl hq)
     rw [HE.out.2.2] at hI
     have HD2 := Aside0.mk hI
     have hg : decide (0 < q / 4294967296) = true := decide_eq_true (by omega)
     have HRR := Aside0.mk (show r + x1 < 4294967296 by omega)
     clear hI
     go_wp2_with fail
     go_quiet (fail)
     go_wp2_with fail
     go_roundg (gk - 1)
     case measure => have := HKq.out; omega
     case rel => exact ⟨q - 1, r + x1, rfl, rfl, ⟨by have := HKq.out; omega⟩, HD2, HRR, ⟨HT1.out.drewN _⟩⟩
    ·have hg : decide (0 < q / 4294967296) = false := decide_eq_false (by omega)
     have hp := mul_lt_sq q0 (show q < 4294967296 by omega) c10 c11
     obtain ⟨hp0, hp1⟩ := hp
     have hor2 : bits BinOp.or IntKind.u64 (r * 4294967296) y0 = r * 4294967296 + y0 := or_high _ _ 32 (by omega) (by omega) (by omega) c00 (by omega) (by omega)
     by_cases ht : r * 4294967296 + y0 < q * x2
     ·obtain ⟨hI, h1q⟩ := HI.out.next HK1.out.1 HK1.out.2 (.inr (by rw [HF.out.1, HF.out.2]; exact ht))
      rw [HE.out.2.2] at hI
      have HD2 := Aside0.mk hI
      have HRR := Aside0.mk (show r + x1 < 4294967296 by omega)
      clear hI
      go_wp2_with fail
      go_quiet (fail)
      go_wp2_with fail
      go_roundg (gk - 1)
      case measure => have := HKq.out; omega
      case rel => exact ⟨q - 1, r + x1, rfl, rfl, ⟨by have := HKq.out; omega⟩, HD2, HRR, ⟨HT1.out.drewN _⟩⟩
     ·have HD2 := Aside0.mk (HI.out.done HK1.out.1 HK1.out.2 HS.out (.inr ⟨by omega, by rw [HF.out.1, HF.out.2]; omega⟩))
      go_wp2_with fail
      go_quiet (fail)
      go_wp2_with fail
      go_meet
      exact ⟨q, rfl, HD2, ⟨HT1.out.drewN _⟩⟩
 case rest =>
  obtain ⟨q, rfl, HG, HT⟩ := hcut
  clear HK HQ HS HE HT1 hor
  have q0 := HG.out.1
  have q1 := HG.out.2.1
  have HS0 := Aside0.mk (show SbI V Y q 0 0 0 Y from ⟨by omega, by omega, by omega, by omega, HD.out.2.1, rfl, by simp [dv, pw], fun _ _ => rfl⟩)
  go_wp2_with fail
  go_loopg [9, 10, 87] (n + 2) (fun kq v9 v10 v87 w' => ∃ (i : Nat) (c b : Int) (Y9 : List Int), v9 = .int .u64 c ∧ v10 = .int .u64 b ∧ v87 = .int .i64 (i : Int) ∧ Aside0 (i + kq = n + 2) ∧ Aside0 (SbI V Y q i c b Y9) ∧ Aside0 (Two w0 w' gu gv N cu (n + 2) cv P Z Y9 V))
  case atStart => exact ⟨0, 0, 0, Y, rfl, rfl, rfl, ⟨by omega⟩, HS0, HT⟩
  case round =>
   clear HT HS0
   obtain ⟨i, c, b, Y9, rfl, rfl, rfl, HK, HI, HT⟩ := hrel
   have hc0 := HI.out.c0
   have hc1 := HI.out.c1
   have hb0 := HI.out.b0
   have hb1 := HI.out.b1
   cases gk with
   | zero =>
    have hi : i = n + 2 := HK.out
    subst hi
    have htwo := HI.out.two HD.out.2.2.1 HD.out.2.2.2 HD.out.1 HG.out
    have hlz : Y9.length = n + 3 := by rw [HI.out.len]; exact HD.out.2.2.2
    obtain ⟨hu, hf⟩ := HT.out.ucell (n + 2) (by omega)
    have hz := HI.out.dg.getD (by decide) (n + 2)
    rcases htwo with ⟨he, h0⟩ | ⟨he, h0⟩
    ·have HF := Aside0.mk (HI.out.fin HD.out.2.2.1 HD.out.2.2.2 HG.out he)
     have HLN := Aside0.mk (show n + 2 < Y9.length by omega)
     have hd : IntKind.u64.wrap (IntKind.u64.wrap (Y9.getD (n + 2) 0 - c) - b) = 0 := by
      rw [u64m, u64m]
      omega
     generalize hun : Y9.getD (n + 2) 0 = un at hu hd he hz
     obtain ⟨hz0, hz1⟩ := hz
     have hd2 : ((0 : Int) / 9223372036854775808 == 0) = true := by decide
     clear h0 he hlz hun
     go_wp2_with fail
     go_ret
     exact ⟨q, Y9.set (n + 2) 0, rfl, HT.out.put hne (n + 2) HLN.out 0, HF.out.1, HF.out.2.1, q0, q1, HF.out.2.2.1, HF.out.2.2.2⟩
    ·have htp := HI.out.top HD.out.2.2.1 HD.out.2.2.2
     rw [he, Int.neg_mul, Int.one_mul, ← Int.sub_eq_add_neg] at htp
     have hd : IntKind.u64.wrap (IntKind.u64.wrap (Y9.getD (n + 2) 0 - c) - b) = 18446744073709551615 := by
      rw [u64m, u64m]
      omega
     have q2 : 1 ≤ q := by
      rcases (show q = 0 ∨ 1 ≤ q by omega) with e | e
      ·have := dv_nonneg (by decide) HD.out.2.1
       rw [e] at h0
       omega
      ·exact e
     have hz9 : dv 4294967296 ((Y9.set (n + 2) 4294967295).take (n + 2)) = dv 4294967296 (Y9.take (n + 2)) := by rw [take_set]
     rw [← hz9] at htp
     have HA0 := Aside0.mk (show AbI V (Y9.set (n + 2) 4294967295) 0 0 (Y9.set (n + 2) 4294967295) from ⟨by omega, by omega, HI.out.dg.set _ (by omega) (by omega), rfl, by simp [dv, pw], fun _ _ => rfl⟩)
     have HT3 := Aside0.mk (HT.out.put hne (n + 2) (by omega) 4294967295)
     have HL1 := Aside0.mk (show (Y9.set (n + 2) 4294967295).length = n + 3 by simp; omega)
     have HZ9 := Aside0.mk (show (Y9.set (n + 2) 4294967295).getD (n + 2) 0 = 4294967295 from getD_set_self (by omega))
     have HTP := Aside0.mk htp
     have H0 := Aside0.mk h0
     obtain ⟨hz0, hz1⟩ := hz
     generalize hun : Y9.getD (n + 2) 0 = un at hu hd hz0 hz1
     have hd2 : ((18446744073709551615 : Int) / 9223372036854775808 == 0) = false := by decide
     clear h0 he hlz hun hz9 htp HT
     generalize hZ1 : Y9.set (n + 2) 4294967295 = Z1 at *
     clear hZ1
     go_wp2_with fail
     go_loopg [15, 140] (n + 2) (fun kq v15 v140 w' => ∃ (i : Nat) (c : Int) (Y9 : List Int), v15 = .int .u64 c ∧ v140 = .int .i64 (i : Int) ∧ Aside0 (i + kq = n + 2) ∧ Aside0 (AbI V Z1 i c Y9) ∧ Aside0 (Two w0 w' gu gv N cu (n + 2) cv P Z Y9 V))
     case atStart => exact ⟨0, 0, Z1, rfl, rfl, ⟨by omega⟩, HA0, HT3⟩
     case round =>
      clear HT3 HA0 hu hf hd hd2 HI hz0 hz1 HK hc0 hc1 hb0 hb1
      obtain ⟨i, c, Y9, rfl, rfl, HK, HI, HT⟩ := hrel
      have hc0 := HI.out.c0
      have hc1 := HI.out.c1
      cases gk with
      | zero =>
       have hi : i = n + 2 := HK.out
       subst hi
       have HF := Aside0.mk (HI.out.fin HD.out.2.2.1 HL1.out HG.out H0.out HTP.out)
       obtain ⟨hu, hf⟩ := HT.out.ucell (n + 2) (by rw [HI.out.len, HL1.out]; omega)
       have hce : c = 1 := HF.out.1
       subst hce
       have HLN := Aside0.mk (show n + 2 < Y9.length by rw [HI.out.len, HL1.out]; omega)
       rw [HI.out.same (n + 2) (Nat.le_refl _), HZ9.out] at hu
       have hb9 : decide ((n : Int) + 2 < (n : Int) + 2) = false := decide_eq_false (by omega)
       go_wp2_with fail
       go_ret
       exact ⟨q - 1, Y9.set (n + 2) 0, rfl, HT.out.put hne (n + 2) HLN.out 0, HF.out.2.1, HF.out.2.2.1, by omega, by omega, HF.out.2.2.2.1, HF.out.2.2.2.2⟩
      | succ k1 =>
       have hi : i < n + 2 := by have := HK.out; omega
       have hb9 : decide (i < n + 2) = true := decide_eq_true hi
       have hzl : Y9.length = n + 3 := by rw [HI.out.len]; exact HL1.out
       have hv := HT.out.vcell i hi
       obtain ⟨hu, hf⟩ := HT.out.ucell i (by omega)
       have hst := HI.out.step HD.out.1 (by omega)
       have hz := HI.out.dg.getD (by decide) i
       have hy := HD.out.1.getD (by decide) i
       generalize V.getD i 0 = y at hv hst hy
       generalize Y9.getD i 0 = u at hu hst hz
       obtain ⟨hz0, hz1⟩ := hz
       obtain ⟨hy0, hy1⟩ := hy
       have HST := Aside0.mk hst
       have HLN := Aside0.mk (show i < Y9.length by omega)
       clear hst hzl
       go_wp2_with fail
       go_roundg k1
       case measure => omega
       case rel =>
        exact ⟨i + 1, _, _, rfl, by simp, ⟨by have := HK.out; omega⟩, HST, ⟨HT.out.put hne i HLN.out _⟩⟩
   | succ k1 =>
    have hi : i < n + 2 := by have := HK.out; omega
    have hb0 : decide (i < n + 2) = true := decide_eq_true hi
    have hzl : Y9.length = n + 3 := by rw [HI.out.len]; exact HD.out.2.2.2
    have hv := HT.out.vcell i hi
    obtain ⟨hu, hf⟩ := HT.out.ucell i (by omega)
    have hst := HI.out.step HD.out.1 q0 q1 (by omega)
    have hz := HI.out.dg.getD (by decide) i
    have hy := HD.out.1.getD (by decide) i
    generalize V.getD i 0 = y at hv hst hy
    generalize Y9.getD i 0 = u at hu hst hz
    obtain ⟨hz0, hz1⟩ := hz
    obtain ⟨hy0, hy1⟩ := hy
    obtain ⟨hp0, hp1⟩ := mul_lt_sq q0 q1 hy0 hy1
    have HST := Aside0.mk hst
    have HLN := Aside0.mk (show i < Y9.length by omega)
    clear hst hzl
    go_wp2_with fail
    go_roundg k1
    case measure => omega
    case rel =>
     refine ⟨i + 1, _, _, _, rfl, rfl, by simp, ⟨by have := HK.out; omega⟩, HST, ⟨HT.out.put hne i HLN.out _⟩⟩
end Go.Proofs.Ytknklchmpohjfaa.Ng
namespace Go.Proofs.Ytknklchmpohjfaa.Lz
open Go.Shelf
def lays133_ren : Go.Shelf.Ren := ⟨fun | 133 => 116 | 128 => 119 | n => n, fun | 51 => 147 | 3 => 3 | 4 => 4 | 46 => 140 | 5 => 5 | 9 => 9 | n => n, fun | n => n⟩
theorem lays133 : Go.Proofs.Lays.n133 Try.prog lays133_ren := {
 mixed := by kernel_rfl
 f128 := Try.func119.trans (congrArg some (by kernel_rfl))
 f133 := Try.func116.trans (congrArg some (by kernel_rfl))
 t3 := Try.underlying3
 a3 := Try.isAgg3
 z3 := Try.sizeOf3
 v3 := Try.zeroValue3
 t4 := Try.underlying4
 a4 := Try.isAgg4
 z4 := Try.sizeOf4
 v4 := Try.zeroValue4
 t5 := Try.underlying5
 a5 := Try.isAgg5
 z5 := Try.sizeOf5
 v5 := Try.zeroValue5
 t9 := Try.underlying9
 a9 := Try.isAgg9
 z9 := Try.sizeOf9
 v9 := Try.zeroValue9
 t46 := Try.underlying140
 a46 := Try.isAgg140
 z46 := Try.sizeOf140
 v46 := Try.zeroValue140
 t51 := Try.underlying147
 a51 := Try.isAgg147
 z51 := Try.sizeOf147
 v51 := Try.zeroValue147 }
theorem bits_LeadingZeros32 (x : Int) (w : World) (h0 : 0 ≤ x) (h1 : x ≤ 4294967295) :
  Calls Try.prog 116 #[.int .u32 x] w fun e w' => e = .returned (.int .i64 (32 - (Lib.bitLen x.toNat : Int))) ∧ w' = w := Any.bits_LeadingZeros32 lays133 x w h0 h1
end Go.Proofs.Ytknklchmpohjfaa.Lz
namespace Go.Proofs.Ytknklchmpohjfaa.Da
open Go.RowKit Go Go.Proofs.YtknklchmpohjfaaW.PrintWords Go.Proofs.YtknklchmpohjfaaW.PrintLast Go.Proofs.YtknklchmpohjfaaW.PrintMore Go.Proofs.Ytknklchmpohjfaa.Ml Go.Proofs.Ytknklchmpohjfaa.Mn Go.Proofs.Ytknklchmpohjfaa.Nd Go.Proofs.Ytknklchmpohjfaa.Z Go.Proofs.Ytknklchmpohjfaa.P Go.Proofs.Ytknklchmpohjfaa.Nc Go.Proofs.Ytknklchmpohjfaa.Nb Go.Proofs.Ytknklchmpohjfaa.Ns Go.Proofs.Ytknklchmpohjfaa.Nk Go.Proofs.Ytknklchmpohjfaa.Ng Go.Proofs.Ytknklchmpohjfaa.Lz
set_option linter.unusedVariables false
set_option linter.unusedSimpArgs false
def ClP (w : World) (l : List Int) (e : Ending) (w' : World) : Prop := ∃ v, e = .returned v ∧ Mag w' v l ∧ Below w.heap.size w w'
set_option maxHeartbeats 1000000 in
set_option maxRecDepth 100000 in
theorem clone_n (A : Option Addr) (c : Nat) (l : List Int) (w : World) (hc : l.length ≤ c) (h : Kd.C (Kd.int .u32) w A l.length l) (hn : l.length ≤ 1000000) :
  Calls Try.prog 105 #[.slice A l.length c] w (ClP w l) := by
 cases A with
 | none =>
  have hl : l = [] := by
   cases l with
   | nil => rfl
   | cons x l =>
    obtain ⟨ad, ha, _⟩ := h.2.2 (by simp)
    simp at ha
  subst hl
  have hnil := fun (wx : World) => Lib.run_eql_slice_nil (P := Try.prog) wx 127 147 none 0 c 0 0 Try.underlying127
  clear hn h hc
  have e0 : ([] : List Int).length = 0 := rfl
  rw [e0]
  clear e0
  go_enter Try.func105, Try.ntmps105
  go_wp2_with fail
  go_ret
  exact ⟨_, rfl, Mag.nil _, Below.refl _ _⟩
 | some ad =>
  have hnil := fun (wx : World) => Lib.run_eql_slice_nil (P := Try.prog) wx 127 147 (some ad) l.length c 0 0 Try.underlying127
  have HC := Aside0.mk h
  clear h
  go_enter Try.func105, Try.ntmps105
  go_wp2_with (first | ((with_reducible refine gate_dst (N := 5) rfl ?_); refine Kd.R_lit (Kd.int .u32) _ 147 ?hg (N := 5) ?hd (xs := ([] : List Int)) (inner := []) (ok := fun _ => True) (okp := fun _ => True) ?hr ?hp (fun _ hk => hk) trivial (Below.refl _ _) (Nat.le_refl _) (by simp) ?_; (case hd => rfl); (case hg => rfl); (case hr => first | (go_simp; done) | (go_simp; rfl)); (case hp => exact Reps.none _ _); intro v5 w3 ho4 hb hg_ hnew_; clear hg_ hnew_; have HO := Aside0.mk ho4; have HB := Aside0.mk hb; clear ho4 hb) | ((with_reducible refine gate_builtin (b := .append) (xs := #[.tmp 5, .tmp 6]) rfl ?_); at_builtin; refine Kd.R_append_row (Value.int .u32) (0 : Int) (w0 := w) w.heap.size rfl (.tmp 5) (.tmp 6) 127 147 (.int .u32 0) 4 rfl Try.underlying127 info147 rfl (by decide) v5 [] l (some ad) l.length c (fun _ => True) rfl rfl (fun _ _ => trivial) HO.out (Kd.C_below HC.out HB.out) HB.out HB.out.size (by simp; omega) ?_; intro v6 w4 ho5 hb2 hg2 hn2; have HO2 := Aside0.mk ho5; have HB2 := Aside0.mk hb2; clear ho5 hb2 hg2 hn2))
  go_ret
  exact ⟨v6, rfl, Mag.ofR HO2.out, HB2.out⟩
structure QrI (a : List Int) (b0 : Int) (m : Nat) (r : Int) (quo : List Int) : Prop where
 r0 : 0 ≤ r
 r1 : r < b0
 dg : Dg 4294967296 quo
 len : quo.length = a.length
 val : dv 4294967296 (a.drop m) = dv 4294967296 (quo.drop m) * b0 + r
theorem QrI.start (a : List Int) (b0 : Int) (hb : 0 < b0) : QrI a b0 a.length 0 (List.replicate a.length 0) :=
 ⟨by omega, hb, Dg.replicate (by decide) _, by simp, by simp [List.drop_of_length_le, dv]⟩
theorem drop_set {l : List Int} {m : Nat} {v : Int} : (l.set m v).drop (m + 1) = l.drop (m + 1) := by
 rw [List.drop_set_of_lt (by omega)]
theorem QrI.step {a quo : List Int} {b0 r : Int} {m : Nat} (h : QrI a b0 (m + 1) r quo) (ha : Dg 4294967296 a) (hm : m < a.length) (hb : b0 < 4294967296) :
  QrI a b0 m ((r * 4294967296 + a.getD m 0) % b0) (quo.set m ((r * 4294967296 + a.getD m 0) / b0 % 4294967296)) := by
 have h1 := ha.getD (by decide) m
 have r0 := h.r0
 have r1 := h.r1
 have hq0 : 0 ≤ (r * 4294967296 + a.getD m 0) / b0 := Int.ediv_nonneg (by omega) (by omega)
 have hq1 : (r * 4294967296 + a.getD m 0) / b0 < 4294967296 := by
  refine Int.ediv_lt_of_lt_mul (by omega) ?_
  have : (r + 1) * 4294967296 ≤ b0 * 4294967296 := Int.mul_le_mul_of_nonneg_right (by omega) (by decide)
  rw [Int.mul_comm 4294967296 b0]
  omega
 rw [Int.emod_eq_of_lt hq0 hq1]
 refine ⟨Int.emod_nonneg _ (by omega), Int.emod_lt_of_pos _ (by omega), h.dg.set _ hq0 hq1, by simpa using h.len, ?_⟩
 rw [dv_drop _ a m hm, dv_drop _ (quo.set m _) m (by simp; have := h.len; omega), drop_set, getD_set_self (by have := h.len; omega), h.val]
 have h2 := Int.ediv_mul_add_emod (r * 4294967296 + a.getD m 0) b0
 generalize (r * 4294967296 + a.getD m 0) / b0 = q at *
 generalize (r * 4294967296 + a.getD m 0) % b0 = s at *
 grind
def DivP (w : World) (la lb : List Int) (e : Ending) (w' : World) : Prop := ∃ v0 v1 q r, e = .returned (.tuple #[v0, v1]) ∧ Mag w' v0 q ∧ Mag w' v1 r ∧ Cn 4294967296 q ∧ Cn 4294967296 r ∧ q.length ≤ la.length ∧ r.length ≤ lb.length ∧ dv 4294967296 la = dv 4294967296 q * dv 4294967296 lb + dv 4294967296 r ∧ dv 4294967296 r < dv 4294967296 lb ∧ Below w.heap.size w w'
set_option maxHeartbeats 8000000 in
set_option maxRecDepth 100000 in
theorem divMag_a (A0 : Option Addr) (c0 : Nat) (la : List Int) (A1 : Option Addr) (c1 : Nat) (lb : List Int) (w : World) (h0 : la.length ≤ c0) (r0 : Kd.C (Kd.int .u32) w A0 la.length la) (h1 : lb.length ≤ c1) (r1 : Kd.C (Kd.int .u32) w A1 lb.length lb) (ha : Cn 4294967296 la) (hb : Cn 4294967296 lb) (hn : la.length ≤ 1000) (hm : lb.length ≤ 1000) (hlt : dv 4294967296 la < dv 4294967296 lb) :
  Calls Try.prog 106 #[.slice A0 la.length c0, .slice A1 lb.length c1] w (DivP w la lb) := by
 have HR := Aside0.mk (And.intro r0 r1)
 have HC := Aside0.mk (And.intro ha hb)
 have HL := Aside0.mk hlt
 clear r0 r1 ha hb hlt
 go_enter Try.func106, Try.ntmps106
 go_wp2_with fail
 refine (cmpMag_n A0 c0 la A1 c1 lb w h0 HR.out.1 h1 HR.out.2 HC.out.1 HC.out.2 (by omega) (by omega)).mono ?_
 rintro e w1 ⟨c, rfl, hs, hb1⟩
 have hc : c < 0 := by have := HL.out; unfold Sg at hs; omega
 clear hs
 go_wp2_with fail
 refine (clone_n A0 c0 la w1 h0 (Kd.C_below HR.out.1 hb1) (by omega)).mono ?_
 rintro e w2 ⟨v, rfl, hM, hb2⟩
 go_wp2_with fail
 go_ret2
 refine ⟨_, _, [], la, rfl, Mag.nil _, hM, Cn.nil _, HC.out.1, by simp, ?_, by simp [dv], HL.out, hb1.trans (hb2.mono hb1.size)⟩
 rcases Nat.lt_or_ge lb.length la.length with h | h
 ·have := dv_len (by decide) HC.out.2.dg HC.out.1 h
  have := HL.out
  omega
 ·exact h
set_option maxHeartbeats 8000000 in
set_option maxRecDepth 100000 in
theorem divMag_b (A0 : Option Addr) (c0 : Nat) (la : List Int) (A1 : Option Addr) (c1 : Nat) (x0 : Int) (w : World) (h0 : la.length ≤ c0) (r0 : Kd.C (Kd.int .u32) w A0 la.length la) (h1 : 1 ≤ c1) (r1 : Kd.C (Kd.int .u32) w A1 1 [x0]) (ha : Cn 4294967296 la) (hb : Cn 4294967296 [x0]) (hn : la.length ≤ 1000) (hle : dv 4294967296 [x0] ≤ dv 4294967296 la) :
  Calls Try.prog 106 #[.slice A0 la.length c0, .slice A1 1 c1] w (DivP w la [x0]) := by
 have hx := hb.dg x0 (by simp)
 have hx2 : x0 ≠ 0 := by simpa using hb.top (by simp)
 obtain ⟨hx0, hx1⟩ := hx
 have hx3 : 1 ≤ x0 := by omega
 have HR := Aside0.mk (And.intro r0 r1)
 have HC := Aside0.mk (And.intro ha hb)
 have HL := Aside0.mk hle
 have hlen : 0 ≤ (la.length : Int) := by omega
 clear r0 r1 ha hb hle hx2
 go_enter Try.func106, Try.ntmps106
 go_wp2_with fail
 refine (cmpMag_n A0 c0 la A1 c1 [x0] w h0 HR.out.1 h1 HR.out.2 HC.out.1 HC.out.2 (by omega) (by simp)).mono ?_
 rintro e w1 ⟨c, rfl, hs, hb1⟩
 have hc : 0 ≤ c := by have := HL.out; unfold Sg at hs; omega
 have HB1 := Aside0.mk hb1
 clear hs hb1
 go_wp2_with ((with_reducible refine gate_dst (N := 25) rfl ?_); refine Kd.R_make (Kd.int .u32) _ 147 rfl (N := 25) rfl 127 _ _ rfl (la.length : Int) rfl rfl Try.underlying127 (.int .u32 0) 4 info147 rfl (by decide) (by omega) 0 (ok := fun _ => True) (okp := fun _ => True) rfl (fun _ hk => hk) trivial hlen (by omega) (Below.refl _ _) (Nat.le_refl _) ?_; intro v w5 ho hb hg_ hnew_; clear hg_ hnew_; have HO := Aside0.mk ho; have HB := Aside0.mk hb; clear ho hb)
 have hpos : 0 < la.length := by
  rcases Nat.eq_zero_or_pos la.length with h | h
  ·have := HL.out
   rw [List.eq_nil_of_length_eq_zero h] at this
   simp [dv] at this
   omega
  ·exact h
 obtain ⟨go, co, eo, gb, _, _⟩ := Kd.R_form HO.out (by simpa using hpos)
 have eo2 : v = .slice (some ⟨go, 0, none⟩) la.length co := by rw [eo]; simp
 have HO2 := Aside0.mk (show Kd.R (Kd.int .u32) 147 w5 0 (fun _ => True) (.slice (some ⟨go, 0, none⟩) la.length co) (List.replicate la.length 0) by have := Kd.R_lower HO.out (Nat.zero_le _); rw [eo2] at this; simpa using this)
 have HB2 := Aside0.mk (show Below w.heap.size w w5 from HB1.out.trans (HB.out.mono HB1.out.size))
 have gb2 : w.heap.size ≤ go := Nat.le_trans HB1.out.size gb
 subst eo2
 clear HO eo HB HB1
 go_loopg [6, 7] la.length (fun kq v6 v7 w' => ∃ (r z : Int) (quo : List Int), v6 = .int .u64 r ∧ v7 = .int .i64 z ∧ Aside0 (z = (kq : Int) - 1 ∧ kq ≤ la.length) ∧ Aside0 (QrI la x0 kq r quo) ∧ Aside0 (Kd.R (Kd.int .u32) 147 w' 0 (fun _ => True) (.slice (some ⟨go, 0, none⟩) la.length co) quo) ∧ Aside0 (Below w.heap.size w w'))
 case atStart => exact ⟨0, _, _, rfl, rfl, ⟨rfl, Nat.le_refl _⟩, ⟨QrI.start la x0 (by omega)⟩, HO2, HB2⟩
 case round =>
  clear HO2 HB2
  obtain ⟨r, z, quo, rfl, rfl, HK, HI, HO, HB⟩ := hrel
  have hr0 := HI.out.r0
  have hr1 := HI.out.r1
  cases gk with
  | zero =>
   obtain rfl : z = -1 := by have := HK.out.1; omega
   have hb9 : decide ((0 : Int) ≤ -1) = false := by decide
   go_wp2_with fail
   refine (trim_n _ quo _ _ _ HO.out HI.out.dg (by rw [HI.out.len]; omega)).mono ?_
   rintro e w6 ⟨v0, q, rfl, hM0, hc0, hv0, hl0, hb0⟩
   have HQ := Aside0.mk (And.intro hM0 (And.intro hc0 (And.intro hv0 (And.intro hl0 hb0))))
   clear hM0 hc0 hv0 hl0 hb0
   go_wp2_with fail
   obtain ⟨r2, hf, hcf, hvf, hlf⟩ := magOf_f r hr0 (by omega)
   refine (num_magOf.calls 3 r r2 w6 hf).mono ?_
   rintro e w7 ⟨v1, rfl, hV, hb7⟩
   have HV := Aside0.mk (And.intro hV (And.intro hcf (And.intro hvf hb7)))
   clear hV hf hcf hvf hlf hb7
   go_wp2_with fail
   go_ret2
   obtain ⟨m0, c0', e0, l0, b0'⟩ := HQ.out
   obtain ⟨m1, c1', e1, b1'⟩ := HV.out
   have hval := HI.out.val
   rw [List.drop_zero, List.drop_zero] at hval
   refine ⟨_, _, q, r2, rfl, m0.below b1', Mag.of m1, c0', c1', by rw [← HI.out.len]; exact l0, ?_, ?_, ?_, HB.out.trans ((b0'.mono HB.out.size).trans (b1'.mono (HB.out.trans (b0'.mono HB.out.size)).size))⟩
   ·refine Nat.le_of_not_lt fun h => ?_
    have h2 := dv_len (by decide) HC.out.2.dg c1' h
    rw [e1] at h2
    simp [dv] at h2
    omega
   ·rw [hval, e0, e1]
    simp [dv]
   ·rw [e1]
    simp [dv]
    omega
  | succ k1 =>
   obtain rfl : z = (k1 : Int) := by have := HK.out.1; omega
   have hk : k1 < la.length := by have := HK.out.2; omega
   obtain ⟨ada, ea, hac⟩ := mag_cell HR.out.1 HB.out k1 hk
   obtain ⟨adb, eb, hbc⟩ := mag_cell HR.out.2 HB.out 0 (by omega)
   obtain ⟨hy1, hz1⟩ := own_cell HO.out k1 hk
   cases ea
   cases eb
   have hst := HI.out.step HC.out.1.dg hk (by omega)
   have hda := HC.out.1.dg.getD (by decide) k1
   generalize la.getD k1 0 = a at hac hst hda
   obtain ⟨hda0, hda1⟩ := hda
   have hor : bits BinOp.or IntKind.u64 (r * 4294967296) a = r * 4294967296 + a := or_high _ _ 32 (by omega) (by omega) (by omega) hda0 (by omega) (by omega)
   have HST := Aside0.mk hst
   simp only [Addr.add, if_true, List.getD_cons_zero] at hbc
   have hadb : adb.block ≠ go := by
    obtain ⟨ad, e, hc⟩ := Kd.at_int HR.out.2 0 (by omega) (by omega)
    cases e
    have := World.block_lt_of_cell? w _ hc
    simp only [Int.toNat_zero, Addr.add, if_true] at this
    omega
   have hbc3 : ∀ u, (wr.setCell ⟨go, k1, none⟩ u).cell? adb = some (.int .u32 x0) := fun u => (World.cell?_of_block (w := wr) (Below.heap_setCell wr ⟨go, k1, none⟩ u adb.block hadb)).trans hbc
   clear hst hadb
   go_wp2_with fail
   go_roundg k1
   case measure => omega
   case rel =>
    refine ⟨_, _, _, rfl, rfl, ⟨by have := HK.out; omega⟩, HST, ⟨own_put HO.out k1 _⟩, ⟨HB.out.setCell gb2 _⟩⟩
end Go.Proofs.Ytknklchmpohjfaa.Da
namespace Go.Proofs.Ytknklchmpohjfaa.Db
open Go.RowKit Go Go.Proofs.YtknklchmpohjfaaW.PrintWords Go.Proofs.YtknklchmpohjfaaW.PrintLast Go.Proofs.YtknklchmpohjfaaW.PrintMore Go.Proofs.Ytknklchmpohjfaa.Ml Go.Proofs.Ytknklchmpohjfaa.Mn Go.Proofs.Ytknklchmpohjfaa.Nd Go.Proofs.Ytknklchmpohjfaa.Z Go.Proofs.Ytknklchmpohjfaa.P Go.Proofs.Ytknklchmpohjfaa.Nc Go.Proofs.Ytknklchmpohjfaa.Nb Go.Proofs.Ytknklchmpohjfaa.Ns Go.Proofs.Ytknklchmpohjfaa.Nk Go.Proofs.Ytknklchmpohjfaa.Ng Go.Proofs.Ytknklchmpohjfaa.Lz Go.Proofs.Ytknklchmpohjfaa.Da
set_option linter.unusedVariables false
set_option linter.unusedSimpArgs false
theorem lz_num (x : Int) (h0 : 0 < x) (h1 : x < 4294967296) : ∃ b : Nat, b ≤ 31 ∧ (32 - ((Lib.bitLen x.toNat : Nat) : Int)) = (b : Int) ∧ 2147483648 ≤ x * 2 ^ b ∧ (x + 1) * 2 ^ b ≤ 4294967296 := by
 have hx : ((x.toNat : Nat) : Int) = x := by omega
 obtain ⟨l1, l2, l3⟩ := Lib.bitLenAux_bounds 64 x.toNat (by omega) (by omega)
 have e : Lib.bitLen x.toNat = Lib.bitLenAux 64 x.toNat := rfl
 rw [e]
 generalize Lib.bitLenAux 64 x.toNat = k at *
 generalize x.toNat = n at *
 subst hx
 have hk : k ≤ 32 := by
  refine Nat.le_of_not_lt fun h => ?_
  have : 2 ^ 32 ≤ 2 ^ (k - 1) := Nat.pow_le_pow_right (by decide) (by omega)
  omega
 refine ⟨32 - k, by omega, by omega, ?_, ?_⟩
 ·have h3 : 2 ^ (k - 1) * 2 ^ (32 - k) ≤ n * 2 ^ (32 - k) := Nat.mul_le_mul_right _ l2
  rw [← Nat.pow_add, show k - 1 + (32 - k) = 31 by omega] at h3
  have h4 : ((n * 2 ^ (32 - k) : Nat) : Int) = (n : Int) * 2 ^ (32 - k) := by simp
  rw [← h4]
  omega
 ·have h3 : (n + 1) * 2 ^ (32 - k) ≤ 2 ^ k * 2 ^ (32 - k) := Nat.mul_le_mul_right _ l3
  rw [← Nat.pow_add, show k + (32 - k) = 32 by omega] at h3
  have h4 : (((n + 1) * 2 ^ (32 - k) : Nat) : Int) = ((n : Int) + 1) * 2 ^ (32 - k) := by simp
  rw [← h4]
  omega
theorem norm_v (lb vl : List Int) (n : Nat) (p : Int) (hp : 0 < p) (hb : Cn 4294967296 lb) (hl : lb.length = n + 2) (dV : Dg 4294967296 vl) (lV : vl.length = n + 3) (vV : dv 4294967296 vl = dv 4294967296 lb * p) (h1 : 2147483648 ≤ lb.getD (n + 1) 0 * p) (h2 : (lb.getD (n + 1) 0 + 1) * p ≤ 4294967296) :
  dv 4294967296 (vl.take (n + 2)) = dv 4294967296 lb * p ∧ 2147483648 ≤ (vl.take (n + 2)).getD (n + 1) 0 := by
 have e1 := dv_take_succ 4294967296 lb (n + 1) (by omega)
 rw [List.take_of_length_le (by omega)] at e1
 have a0 := dv_nonneg (by decide) (hb.dg.take (n + 1))
 have a1 := dv_lt (by decide) (hb.dg.take (n + 1))
 rw [List.length_take, Nat.min_eq_left (by omega)] at a1
 have hM := pow_pos (B := 4294967296) (by decide) (n + 1)
 have e2 := dv_take_succ 4294967296 vl (n + 2) (by omega)
 rw [List.take_of_length_le (by omega), pw_succ] at e2
 have e3 := dv_take_succ 4294967296 vl (n + 1) (by omega)
 have b0 := dv_nonneg (by decide) (dV.take (n + 2))
 have b1 := dv_nonneg (by decide) (dV.take (n + 1))
 have b2 := dv_lt (by decide) (dV.take (n + 1))
 rw [List.length_take, Nat.min_eq_left (by omega)] at b2
 have c0 := dV.getD (by decide) (n + 2)
 generalize dv 4294967296 (lb.take (n + 1)) = ll at *
 generalize lb.getD (n + 1) 0 = t at *
 generalize pw 4294967296 (n + 1) = M at *
 have u1 : dv 4294967296 lb * p < M * 4294967296 := by
  have h3 : dv 4294967296 lb + 1 ≤ (t + 1) * M := by rw [e1, Int.add_mul]; omega
  have h4 : (dv 4294967296 lb + 1) * p ≤ (t + 1) * M * p := Int.mul_le_mul_of_nonneg_right h3 (by omega)
  have h5 : (t + 1) * M * p = (t + 1) * p * M := by grind
  have h6 : (t + 1) * p * M ≤ 4294967296 * M := Int.mul_le_mul_of_nonneg_right h2 (by omega)
  rw [Int.add_mul] at h4
  omega
 have u2 : 2147483648 * M ≤ dv 4294967296 lb * p := by
  have h3 : t * p * M ≤ dv 4294967296 lb * p := by
   have h4 : t * M * p ≤ dv 4294967296 lb * p := Int.mul_le_mul_of_nonneg_right (by omega) (by omega)
   have h5 : t * p * M = t * M * p := by grind
   omega
  have h4 : 2147483648 * M ≤ t * p * M := Int.mul_le_mul_of_nonneg_right h1 (by omega)
  omega
 have z : vl.getD (n + 2) 0 = 0 := by
  refine Int.le_antisymm (Int.le_of_not_gt fun h => ?_) c0.1
  have h3 : 1 * (M * 4294967296) ≤ vl.getD (n + 2) 0 * (M * 4294967296) := Int.mul_le_mul_of_nonneg_right (by omega) (by omega)
  omega
 have hv : dv 4294967296 (vl.take (n + 2)) = dv 4294967296 lb * p := by rw [z] at e2; omega
 refine ⟨hv, ?_⟩
 have e4 : (vl.take (n + 2)).getD (n + 1) 0 = vl.getD (n + 1) 0 := by
  simp [List.getD_eq_getElem?_getD, List.getElem?_take]
 rw [e4]
 refine Int.le_of_not_gt fun h => ?_
 rw [hv] at e3
 have h3 : (vl.getD (n + 1) 0 + 1) * M ≤ 2147483648 * M := Int.mul_le_mul_of_nonneg_right (by omega) (by omega)
 rw [Int.add_mul] at h3
 omega
structure LdI (ul V : List Int) (n m : Nat) (U quo : List Int) : Prop where
 dU : Dg 4294967296 U
 lU : U.length = ul.length
 dq : Dg 4294967296 quo
 lq : quo.length = ul.length - n - 2
 top : dv 4294967296 (U.drop m) < dv 4294967296 V
 val : dv 4294967296 ul = dv 4294967296 U + dv 4294967296 (quo.drop m) * dv 4294967296 V * pw 4294967296 m
theorem LdI.start (ul V : List Int) (n : Nat) (dU : Dg 4294967296 ul) (hl : n + 3 ≤ ul.length) (hV : V.length = n + 2) (dV : Dg 4294967296 V) (htop : ul.getD (ul.length - 1) 0 < V.getD (n + 1) 0) :
  LdI ul V n (ul.length - n - 2) ul (List.replicate (ul.length - n - 2) 0) := by
 refine ⟨dU, rfl, Dg.replicate (by decide) _, by simp, ?_, by simp [List.drop_of_length_le, dv]⟩
 have e1 := dv_take_succ 4294967296 (ul.drop (ul.length - n - 2)) (n + 1) (by simp; omega)
 rw [List.take_of_length_le (by simp; omega)] at e1
 have e2 : (ul.drop (ul.length - n - 2)).getD (n + 1) 0 = ul.getD (ul.length - 1) 0 := by
  simp only [List.getD_eq_getElem?_getD, List.getElem?_drop]
  congr 2
  omega
 have e3 := dv_take_succ 4294967296 V (n + 1) (by omega)
 rw [List.take_of_length_le (by omega)] at e3
 have a1 := dv_lt (by decide) ((dU.drop (ul.length - n - 2)).take (n + 1))
 rw [List.length_take, Nat.min_eq_left (by simp; omega)] at a1
 have a2 := dv_nonneg (by decide) (dV.take (n + 1))
 have hM := pow_pos (B := 4294967296) (by decide) (n + 1)
 rw [e1, e2, e3]
 have h3 : (ul.getD (ul.length - 1) 0 + 1) * pw 4294967296 (n + 1) ≤ V.getD (n + 1) 0 * pw 4294967296 (n + 1) := Int.mul_le_mul_of_nonneg_right (by omega) (by omega)
 rw [Int.add_mul] at h3
 omega
theorem LdI.win {ul V U quo : List Int} {n m : Nat} (h : LdI ul V n (m + 1) U quo) (hV : V.length = n + 2) (dV : Dg 4294967296 V) (hm : m + 1 ≤ ul.length - n - 2) :
  U = U.take m ++ ((U.drop m).take (n + 3) ++ U.drop (m + (n + 3))) ∧ (U.take m).length = m ∧ ((U.drop m).take (n + 3)).length = n + 3 ∧ Dg 4294967296 ((U.drop m).take (n + 3)) ∧ dv 4294967296 (U.drop (m + (n + 3))) = 0 ∧ dv 4294967296 ((U.drop m).take (n + 3)) < dv 4294967296 V * 4294967296 := by
 have hlU := h.lU
 have e0 : (U.drop m).drop (n + 3) = U.drop (m + (n + 3)) := by rw [List.drop_drop]
 have z : dv 4294967296 (U.drop (m + (n + 3))) = 0 := by
  have h1 := dv_split 4294967296 (U.drop (m + 1)) (n + 2) (by simp; omega)
  rw [List.drop_drop, show m + 1 + (n + 2) = m + (n + 3) by omega] at h1
  have h2 := h.top
  have h3 := dv_lt (by decide) dV
  rw [hV] at h3
  have h4 := dv_nonneg (by decide) ((h.dU.drop (m + 1)).take (n + 2))
  have h5 := dv_nonneg (by decide) (h.dU.drop (m + (n + 3)))
  have hM := pow_pos (B := 4294967296) (by decide) (n + 2)
  refine Int.le_antisymm (Int.le_of_not_gt fun h6 => ?_) h5
  have h7 : pw 4294967296 (n + 2) * 1 ≤ pw 4294967296 (n + 2) * dv 4294967296 (U.drop (m + (n + 3))) := Int.mul_le_mul_of_nonneg_left (by omega) (by omega)
  omega
 refine ⟨?_, by simp; omega, by simp; omega, (h.dU.drop m).take _, z, ?_⟩
 ·rw [← e0, List.take_append_drop, List.take_append_drop]
 ·have h1 := dv_split 4294967296 (U.drop m) (n + 3) (by simp; omega)
  rw [e0, z] at h1
  have h2 := dv_drop 4294967296 U m (by omega)
  have h3 := h.dU.getD (by decide) m
  have h4 := h.top
  omega
theorem LdI.step {ul V U quo Y' : List Int} {n m : Nat} {q : Int} (h : LdI ul V n (m + 1) U quo) (hV : V.length = n + 2) (dV : Dg 4294967296 V) (hm : m + 1 ≤ ul.length - n - 2) (lY : Y'.length = n + 3) (dY : Dg 4294967296 Y') (q0 : 0 ≤ q) (q1 : q < 4294967296)
  (hq : dv 4294967296 ((U.drop m).take (n + 3)) = q * dv 4294967296 V + dv 4294967296 Y') (hlt : dv 4294967296 Y' < dv 4294967296 V) :
  LdI ul V n m (U.take m ++ (Y' ++ U.drop (m + (n + 3)))) (quo.set m q) := by
 obtain ⟨w1, w2, w3, w4, w5, w6⟩ := h.win hV dV hm
 have hlU := h.lU
 have e1 : (U.take m ++ (Y' ++ U.drop (m + (n + 3)))).drop m = Y' ++ U.drop (m + (n + 3)) := by
  rw [List.drop_append_of_le_length (by omega), List.drop_of_length_le (by omega), List.nil_append]
 have e2 : dv 4294967296 (Y' ++ U.drop (m + (n + 3))) = dv 4294967296 Y' := by rw [dv_append, w5]; omega
 refine ⟨(h.dU.take m).append (dY.append (h.dU.drop _)), by simp; omega, h.dq.set _ q0 q1, by simpa using h.lq, by rw [e1, e2]; exact hlt, ?_⟩
 have e3 := h.val
 rw [dv_append, e2, w2, dv_drop _ (quo.set m q) m (by simp; have := h.lq; omega), drop_set, getD_set_self (by have := h.lq; omega)]
 have e4 : dv 4294967296 U = dv 4294967296 (U.take m) + pw 4294967296 m * (q * dv 4294967296 V + dv 4294967296 Y') := by
  rw [← hq]
  have := dv_split 4294967296 U m (by omega)
  have h2 := dv_split 4294967296 (U.drop m) (n + 3) (by simp; omega)
  rw [List.drop_drop, w5] at h2
  rw [this, h2]
  grind
 rw [e3, e4, pw_succ]
 grind
theorem dn_num {x y p pp : Int} (hp : 0 < p) (hpp : p * pp = 4294967296) (x0 : 0 ≤ x) (x1 : x < 4294967296) (y0 : 0 ≤ y) : p * ((y * 4294967296 + x) / p % 4294967296) = x - x % p + (y % p) * 4294967296 := by
 have ex := Int.ediv_mul_add_emod x p
 have ey := Int.ediv_mul_add_emod y p
 have rx0 := Int.emod_nonneg x (show p ≠ 0 by omega)
 have rx1 := Int.emod_lt_of_pos x hp
 have ry0 := Int.emod_nonneg y (show p ≠ 0 by omega)
 have ry1 := Int.emod_lt_of_pos y hp
 have qx0 : 0 ≤ x / p := Int.ediv_nonneg x0 (by omega)
 generalize x / p = xq at *
 generalize y / p = yq at *
 generalize x % p = xr at *
 generalize y % p = yr at *
 have hpp0 : 0 < pp := by
  refine Int.lt_of_not_ge fun h => ?_
  have : p * pp ≤ p * 0 := Int.mul_le_mul_of_nonneg_left h (by omega)
  omega
 have qx1 : xq < pp := by
  refine lt_of_mul (c := p) ?_ hp
  rw [Int.mul_comm pp p]
  omega
 have e1 : (y * 4294967296 + x) / p = y * pp + xq := by
  rw [show y * 4294967296 + x = xr + p * (y * pp + xq) by rw [← ex, ← hpp]; grind, Int.add_mul_ediv_left _ _ (by omega), Int.ediv_eq_zero_of_lt rx0 rx1]
  omega
 have b0 : 0 ≤ yr * pp + xq := by
  have := Int.mul_nonneg ry0 (Int.le_of_lt hpp0)
  omega
 have b1 : yr * pp + xq < 4294967296 := by
  have : (yr + 1) * pp ≤ p * pp := Int.mul_le_mul_of_nonneg_right (by omega) (by omega)
  rw [Int.add_mul] at this
  omega
 have e2 : y * pp + xq = yr * pp + xq + 4294967296 * yq := by rw [← ey, ← hpp]; grind
 rw [e1, e2, Int.add_mul_emod_self_left, Int.emod_eq_of_lt b0 b1, ← hpp, ← ex]
 grind
structure DnI (U : List Int) (p : Int) (n i : Nat) (rem : List Int) : Prop where
 dg : Dg 4294967296 rem
 len : rem.length = n + 2
 val : dv 4294967296 (rem.take i) * p + U.getD 0 0 % p = dv 4294967296 (U.take i) + U.getD i 0 % p * pw 4294967296 i
theorem DnI.start (U : List Int) (p : Int) (n : Nat) : DnI U p n 0 (List.replicate (n + 2) 0) :=
 ⟨Dg.replicate (by decide) _, by simp, by simp [dv, pw]⟩
theorem DnI.step {U rem : List Int} {p pp : Int} {n i : Nat} (h : DnI U p n i rem) (dU : Dg 4294967296 U) (hp : 0 < p) (hpp : p * pp = 4294967296) (hi : i < n + 2) :
  DnI U p n (i + 1) (rem.set i ((U.getD (i + 1) 0 * 4294967296 + U.getD i 0) / p % 4294967296)) := by
 have a0 := dU.getD (by decide) i
 have a1 := dU.getD (by decide) (i + 1)
 have e := dn_num hp hpp a0.1 a0.2 a1.1
 refine ⟨h.dg.set _ (Int.emod_nonneg _ (by decide)) (Int.emod_lt_of_pos _ (by decide)), by simpa using h.len, ?_⟩
 have hv := h.val
 rw [dv_take_set (by have := h.len; omega), dv_take_succ', pw_succ]
 generalize (U.getD (i + 1) 0 * 4294967296 + U.getD i 0) / p % 4294967296 = s at *
 have h2 := Int.ediv_mul_add_emod (U.getD i 0) p
 generalize U.getD i 0 % p = ui at *
 generalize U.getD (i + 1) 0 % p = uj at *
 generalize U.getD i 0 = u at *
 generalize U.getD 0 0 % p = u0 at *
 grind
end Go.Proofs.Ytknklchmpohjfaa.Db
namespace Go.Proofs.Ytknklchmpohjfaa.Dc
open Go.RowKit Go Go.Proofs.YtknklchmpohjfaaW.PrintWords Go.Proofs.YtknklchmpohjfaaW.PrintLast Go.Proofs.YtknklchmpohjfaaW.PrintMore Go.Proofs.Ytknklchmpohjfaa.Ml Go.Proofs.Ytknklchmpohjfaa.Mn Go.Proofs.Ytknklchmpohjfaa.Nd Go.Proofs.Ytknklchmpohjfaa.Z Go.Proofs.Ytknklchmpohjfaa.P Go.Proofs.Ytknklchmpohjfaa.Nc Go.Proofs.Ytknklchmpohjfaa.Nb Go.Proofs.Ytknklchmpohjfaa.Ns Go.Proofs.Ytknklchmpohjfaa.Nk Go.Proofs.Ytknklchmpohjfaa.Ng Go.Proofs.Ytknklchmpohjfaa.Lz Go.Proofs.Ytknklchmpohjfaa.Da Go.Proofs.Ytknklchmpohjfaa.Db
set_option linter.unusedVariables false
set_option linter.unusedSimpArgs false
structure Tri (w W : World) (gu N cu : Nat) (U : List Int) (gv n cv : Nat) (V : List Int) (go m co : Nat) (Q : List Int) : Prop where
 u : Kd.R (Kd.int .u32) 147 W 0 (fun _ => True) (.slice (some ⟨gu, 0, none⟩) N cu) U
 v : Kd.R (Kd.int .u32) 147 W 0 (fun _ => True) (.slice (some ⟨gv, 0, none⟩) n cv) V
 q : Kd.R (Kd.int .u32) 147 W 0 (fun _ => True) (.slice (some ⟨go, 0, none⟩) m co) Q
 b : Below w.heap.size w W
theorem far_put {e g n c g2 i : Nat} {xs : List Int} {W : World} {x : Value} (h : Kd.R (Kd.int .u32) e W 0 (fun _ => True) (.slice (some ⟨g, 0, none⟩) n c) xs) (hne : g ≠ g2) : Kd.R (Kd.int .u32) e (W.setCell ⟨g2, i, none⟩ x) 0 (fun _ => True) (.slice (some ⟨g, 0, none⟩) n c) xs := by
 refine Kd.R_mono (ok := fun k => k = g) (Kd.R_far (p := ⟨g2, i, none⟩) (Kd.R_mono (Kd.R_tight rfl h) (fun k hk => ?_)) (fun k hk => ?_) _) (fun _ _ => trivial)
 ·simpa [Value.ownBlock] using hk
 ·rw [hk]; exact hne
theorem Tri.put {w W : World} {gu N cu gv n cv go m co : Nat} {U V Q : List Int} (h : Tri w W gu N cu U gv n cv V go m co Q) (h1 : gu ≠ go) (h2 : gv ≠ go) (h3 : w.heap.size ≤ go) (i : Nat) (x : Int) : Tri w (W.setCell ⟨go, i, none⟩ (.int .u32 x)) gu N cu U gv n cv V go m co (Q.set i x) :=
 ⟨far_put h.u h1, far_put h.v h2, own_put h.q i x, h.b.setCell h3 _⟩
theorem Tri.drewN {w W : World} {gu N cu gv n cv go m co : Nat} {U V Q : List Int} (h : Tri w W gu N cu U gv n cv V go m co Q) (k : Nat) : Tri w (W.drewN k) gu N cu U gv n cv V go m co Q :=
 ⟨Kd.R_drewN h.u k, Kd.R_drewN h.v k, Kd.R_drewN h.q k, pw_below_drewN h.b k⟩
theorem Tri.two {w W : World} {gu N cu gv n cv go m co : Nat} {U V Q P Z Y : List Int} (h : Tri w W gu N cu U gv n cv V go m co Q) (e : U = P ++ (Y ++ Z)) : Two W W gu gv N cu n cv P Z Y V :=
 ⟨by rw [← e]; exact h.u, h.v, grown_of_below (Below.refl _ _) _⟩
theorem Tri.dug {w W W2 : World} {gu N cu gv n cv go m co : Nat} {U V Q P Z Y : List Int} (h : Tri w W gu N cu U gv n cv V go m co Q) (h2 : Two W W2 gu gv N cu n cv P Z Y V) (h1 : go ≠ gu) (h3 : w.heap.size ≤ gu) : Tri w W2 gu N cu (P ++ (Y ++ Z)) gv n cv V go m co Q :=
 ⟨h2.u, h2.v, Kd.R_grown2 h.q rfl h2.g (by intro k hk; simp at hk; subst hk; simp [Value.ownBlock]; exact fun h => h1 h.symm), pw_below_grown h.b _ h.b.size h2.g (by intro k hk; simp at hk; subst hk; exact h3)⟩
theorem Tri.cells {w W : World} {gu N cu gv n cv go m co : Nat} {U V Q : List Int} (h : Tri w W gu N cu U gv n cv V go m co Q) (i : Nat) (hi : i < N) : W.cell? ⟨gu, i, none⟩ = some (.int .u32 (U.getD i 0)) := (own_cell h.u i hi).1
theorem Tri.qcell {w W : World} {gu N cu gv n cv go m co : Nat} {U V Q : List Int} (h : Tri w W gu N cu U gv n cv V go m co Q) (i : Nat) (hi : i < m) : W.cell? ⟨go, i, none⟩ = some (.int .u32 (Q.getD i 0)) ∧ W.frozen? ⟨go, i, none⟩ = false := own_cell h.q i hi
theorem w64n (i : Nat) (h : i < 1000000) : wrap64 ((i : Int) + 1) = (i : Int) + 1 := w64 (by omega) (by omega)
theorem u64k {x : Int} (h0 : 0 ≤ x) (h1 : x < 4294967296) : IntKind.u64.wrap (x * 4294967296) = x * 4294967296 := u64 (by omega) (by omega)
theorem u32m (x : Int) : IntKind.u32.wrap x = x % 4294967296 := rfl
theorem div_end {ul V U Q R : List Int} {n : Nat} {p pp A B : Int} (h : LdI ul V n 0 U Q) (d : DnI U p n (n + 2) R) (hp : 0 < p) (hpp : p * pp = 4294967296) (hV : V.length = n + 2) (dV : Dg 4294967296 V) (hU : n + 2 < U.length) (eV : dv 4294967296 V = B * p) (eU : dv 4294967296 ul = A * p) : A = dv 4294967296 Q * B + dv 4294967296 R ∧ dv 4294967296 R < B := by
 have h1 := dv_split 4294967296 U (n + 2) (by omega)
 have h2 := h.top
 rw [List.drop_zero] at h2
 have h3 := dv_lt (by decide) dV
 rw [hV] at h3
 have h4 := dv_nonneg (by decide) (h.dU.take (n + 2))
 have h5 := dv_nonneg (by decide) (h.dU.drop (n + 2))
 have hM := pow_pos (B := 4294967296) (by decide) (n + 2)
 have z : dv 4294967296 (U.drop (n + 2)) = 0 := by
  refine Int.le_antisymm (Int.le_of_not_gt fun h6 => ?_) h5
  have h7 : pw 4294967296 (n + 2) * 1 ≤ pw 4294967296 (n + 2) * dv 4294967296 (U.drop (n + 2)) := Int.mul_le_mul_of_nonneg_left (by omega) (by omega)
  omega
 have z2 : U.getD (n + 2) 0 = 0 := by
  have := dv_drop 4294967296 U (n + 2) hU
  have h6 := h.dU.getD (by decide) (n + 2)
  have h7 := dv_nonneg (by decide) (h.dU.drop (n + 2 + 1))
  omega
 have e0 := dv_drop 4294967296 U 0 (by omega)
 rw [List.drop_zero] at e0
 have hv := h.val
 rw [List.drop_zero] at hv
 have hd := d.val
 rw [List.take_of_length_le (by rw [d.len]; exact Nat.le_refl _), z2, Int.zero_emod, Int.zero_mul, Int.add_zero] at hd
 rw [z, Int.mul_zero, Int.add_zero] at h1
 rw [← h1] at hd
 simp only [pw, Int.mul_one] at hv
 generalize dv 4294967296 (U.drop (0 + 1)) = t at *
 have m0 : U.getD 0 0 % p = 0 := by
  have : U.getD 0 0 = p * (A - dv 4294967296 Q * B - pp * t) := by grind
  rw [this]
  exact Int.mul_emod_right _ _
 rw [m0] at hd
 have e1 : (A - dv 4294967296 Q * B - dv 4294967296 R) * p = 0 := by grind
 have e2 : A - dv 4294967296 Q * B - dv 4294967296 R = 0 := by
  rcases Int.mul_eq_zero.1 e1 with h | h
  ·exact h
  ·omega
 refine ⟨by omega, lt_of_mul (c := p) ?_ hp⟩
 omega
set_option maxHeartbeats 16000000 in
set_option maxRecDepth 100000 in
theorem divMag_c (A0 : Option Addr) (c0 : Nat) (la : List Int) (A1 : Option Addr) (c1 n : Nat) (lb : List Int) (w : World) (h0 : la.length ≤ c0) (r0 : Kd.C (Kd.int .u32) w A0 la.length la) (h1 : n + 2 ≤ c1) (r1 : Kd.C (Kd.int .u32) w A1 lb.length lb) (hl : lb.length = n + 2) (ha : Cn 4294967296 la) (hb : Cn 4294967296 lb) (hn : la.length ≤ 1000) (hm : n ≤ 1000) (hle : dv 4294967296 lb ≤ dv 4294967296 la) :
  Calls Try.prog 106 #[.slice A0 la.length c0, .slice A1 (n + 2) c1] w (DivP w la lb) := by
 have hll : n + 2 ≤ la.length := by
  rw [← hl]
  refine Nat.le_of_not_lt fun h => ?_
  have := dv_len (by decide) ha.dg hb h
  omega
 have ht0 := hb.dg.getD (by decide) (n + 1)
 have ht1 := top_getD hb.top (by omega)
 rw [hl, show n + 2 - 1 = n + 1 by omega] at ht1
 obtain ⟨b, hb31, hlz, hz1, hz2⟩ := lz_num (lb.getD (n + 1) 0) (by omega) ht0.2
 rw [hl] at r1
 obtain ⟨adb, eb, hbc⟩ := mag_cell r1 (Below.refl _ _) (n + 1) (by omega)
 cases eb
 generalize hT : lb.getD (n + 1) 0 = top at hbc ht0 hlz
 have hn1 : decide ((n : Int) + 2 = 1) = false := by apply decide_eq_false; omega
 have hn2 : ((n : Int) + 2 == 1) = false := by apply beq_eq_false_iff_ne.2; omega
 have ht2 : ((n : Int) + 2).toNat = n + 2 := by omega
 have hmx : max ((n : Int) + 2) 0 = (n : Int) + 2 := by omega
 have HR := Aside0.mk (And.intro r0 r1)
 have HTP := Aside0.mk hT
 have HC := Aside0.mk (And.intro ha hb)
 have HL := Aside0.mk (And.intro hle hl)
 have HZ := Aside0.mk (And.intro hlz (And.intro hz1 hz2))
 obtain ⟨ht0a, ht0b⟩ := ht0
 clear r0 r1 ha hb hle hz1 hz2 hlz hl ht1 hT
 obtain ⟨s, hs⟩ : ∃ s, la.length = n + 2 + s := ⟨la.length - (n + 2), by omega⟩
 have hsi : (la.length : Int) - ((n : Int) + 2) = (s : Int) := by omega
 have HSS := Aside0.mk hs
 clear hs
 go_enter Try.func106, Try.ntmps106
 go_wp2_with fail
 have hcm := cmpMag_n A0 c0 la (some adb) c1 lb w h0 HR.out.1 (by rw [HL.out.2]; exact h1) (by rw [HL.out.2]; exact HR.out.2) HC.out.1 HC.out.2 (by omega) (by rw [HL.out.2]; omega)
 rw [HL.out.2] at hcm
 refine hcm.mono ?_
 clear hcm
 rintro e w1 ⟨c, rfl, hs, hb1⟩
 have hc : 0 ≤ c := by have := HL.out.1; unfold Sg at hs; omega
 have HB1 := Aside0.mk hb1
 have hbc1 : w1.cell? (adb.add (n + 1)) = some (.int .u32 top) := pw_cell_below hb1 hbc
 have hbc2 : w1.cell? { block := adb.block, off := adb.off + (n + 1) } = some (.int .u32 top) := hbc1
 clear hs hb1
 go_wp2_with fail
 refine (bits_LeadingZeros32 top w1 ht0a (by omega)).mono ?_
 rintro e w2 ⟨rfl, rfl⟩
 rw [HZ.out.1]
 go_wp2_with fail
 refine start_ (n := 11) (S := fun w' => True) (ds := []) (bs 11 0) (by kernel_rfl) rfl rfl trivial (fun hHeld => ?_)
 refine zP 0 68 11 1 ?_
 refine zP 1 69 11 3 ?_
 refine zP 3 71 11 11 ?_
 refine zP 4 72 11 27 ?_
 refine zP 6 74 11 91 ?_
 refine zP 7 75 11 219 ?_
 refine zN 2 (some 70) 11 223 (fun K hK => ?_)
 refine zG Try.func117 #[.slice A0 la.length c0, .int .i64 (b : Int)] ?_
 with_reducible refine (shift_n A0 c0 la b _ h0 (Kd.C_drew (Kd.C_below HR.out.1 HB1.out)) HC.out.1.dg (by omega) hb31).mono ?_
 rintro e w3 ⟨gu, cu, ul, hgu, rfl, hRu, dU, lU, vU, tU, hb3⟩
 refine ⟨_, rfl, ?_⟩
 refine hK.out _ _ trivial (fun hHeld => ?_)
 clear hK K
 refine zM 70 ?_
 refine zN 5 (some 73) 11 255 (fun K hK => ?_)
 refine zG Try.func117 #[.slice (some adb) (n + 2) c1, .int .i64 (b : Int)] ?_
 with_reducible refine (shift_m (some adb) c1 lb (n + 2) HL.out.2 b _ h1 (Kd.C_below HR.out.2 (HB1.out.trans ((below_drew' hb3).mono HB1.out.size))) HC.out.2.dg (by omega) hb31).mono ?_
 rintro e w4 ⟨gv, cv, vl, hgv, rfl, hRv, dV, lV, vV, tV, hb4⟩
 refine ⟨_, rfl, ?_⟩
 have hcv : (n : Int) + 2 ≤ (cv : Int) := by have := (Kd.R_reads' hRv).2.1; omega
 have hn3 : 0 ≤ (n : Int) + 2 := by omega
 refine hK.out _ _ trivial (fun hHeld => ?_)
 clear hK K
 refine zM 73 ?_
 refine zP 8 76 11 511 ?_
 refine zP 9 9 11 1023 ?_
 refine zP 10 10 11 2047 ?_
 refine done_ (by kernel_rfl) ?_
 have hsz : 0 ≤ (s : Int) + 1 := by omega
 have HU := Aside0.mk (And.intro hRu (And.intro dU (And.intro lU (And.intro vU tU))))
 have HV := Aside0.mk (And.intro hRv (And.intro dV (And.intro lV (And.intro vV tV))))
 have HB4 := Aside0.mk (And.intro hb3 hb4)
 clear hRu dU lU vU tU hRv dV lV vV tV hb3 hb4
 go_wp2_with ((with_reducible refine gate_dst (N := 84) rfl ?_); refine Kd.R_make (Kd.int .u32) _ 147 rfl (N := 84) rfl 127 _ _ rfl ((s : Int) + 1) rfl rfl Try.underlying127 (.int .u32 0) 4 info147 rfl (by decide) (by omega) 0 (ok := fun _ => True) (okp := fun _ => True) rfl (fun _ hk => hk) trivial hsz (by omega) (Below.refl _ _) (Nat.le_refl _) ?_; intro v w5 ho hb hg_ hnew_; clear hg_ hnew_; have HO := Aside0.mk ho; have HB := Aside0.mk hb; clear ho hb)
 obtain ⟨go, co, eo, gb, _, _⟩ := Kd.R_form HO.out (by simp)
 have eo2 : v = .slice (some ⟨go, 0, none⟩) (s + 1) co := by rw [eo]; simp
 have HO2 : Kd.R (Kd.int .u32) 147 w5 0 (fun _ => True) (.slice (some ⟨go, 0, none⟩) (s + 1) co) (List.replicate (s + 1) 0) := by have := Kd.R_lower HO.out (Nat.zero_le _); rw [eo2] at this; simpa using this
 have hgo : go ≠ gu ∧ go ≠ gv ∧ gu ≠ gv ∧ w.heap.size ≤ gu ∧ w.heap.size ≤ gv ∧ w.heap.size ≤ go := by
  have a1 := Kd.R_lt HU.out.1 gu rfl
  have a2 := Kd.R_lt HV.out.1 gv rfl
  have a3 := HB1.out.size
  have a4 : w2.heap.size ≤ gu := hgu
  have a5 := HB4.out.2.size
  have a6 : w4.heap.size ≤ go := gb
  omega
 obtain ⟨n1, n2, n3, n4, n5, n6⟩ := hgo
 have HT := Aside0.mk (show Tri w w5 gu (la.length + 1) cu ul gv (n + 2) cv (vl.take (n + 2)) go (s + 1) co (List.replicate (s + 1) 0) from
  ⟨Kd.R_below (Kd.R_below (Kd.R_lower HU.out.1 (Nat.zero_le _)) HB4.out.2) HB.out, Kd.R_below (Kd.R_take (Kd.R_lower HV.out.1 (Nat.zero_le _)) (by rw [HV.out.2.2.1]; omega)) HB.out, HO2,
     HB1.out.trans ((below_drew' HB4.out.1).mono HB1.out.size |>.trans ((HB4.out.2.mono (by have a1 := HB1.out.size; have a2 : w2.heap.size ≤ w3.heap.size := HB4.out.1.size; omega)).trans (HB.out.mono (by have a1 := HB1.out.size; have a2 : w2.heap.size ≤ w3.heap.size := HB4.out.1.size; have a3 := HB4.out.2.size; omega))))⟩)
 have hcu : la.length + 1 ≤ cu := (Kd.R_reads' HU.out.1).2.1
 have hp31 : (2 : Int) ^ b ≤ 2147483648 := by
  have : b = 0 ∨ b = 1 ∨ b = 2 ∨ b = 3 ∨ b = 4 ∨ b = 5 ∨ b = 6 ∨ b = 7 ∨ b = 8 ∨ b = 9 ∨ b = 10 ∨ b = 11 ∨ b = 12 ∨ b = 13 ∨ b = 14 ∨ b = 15 ∨ b = 16 ∨ b = 17 ∨ b = 18 ∨ b = 19 ∨ b = 20 ∨ b = 21 ∨ b = 22 ∨ b = 23 ∨ b = 24 ∨ b = 25 ∨ b = 26 ∨ b = 27 ∨ b = 28 ∨ b = 29 ∨ b = 30 ∨ b = 31 := by omega
  rcases this with h | h | h | h | h | h | h | h | h | h | h | h | h | h | h | h | h | h | h | h | h | h | h | h | h | h | h | h | h | h | h | h <;> subst h <;> decide
 have hnv := norm_v lb vl n (2 ^ b) (Int.pow_pos (by decide)) HC.out.2 HL.out.2 HV.out.2.1 HV.out.2.2.1 HV.out.2.2.2.1 HZ.out.2.1 HZ.out.2.2
 have HVD := Aside0.mk (And.intro (HV.out.2.1.take (n + 2)) hnv)
 have hLV : (vl.take (n + 2)).length = n + 2 := by rw [List.length_take, HV.out.2.2.1]; omega
 have hLI := LdI.start ul (vl.take (n + 2)) n HU.out.2.1 (by rw [HU.out.2.2.1]; omega) hLV HVD.out.1 (by rw [HU.out.2.2.1, Nat.add_sub_cancel]; have := HVD.out.2.2; have := HU.out.2.2.2.2; omega)
 rw [show ul.length - n - 2 = s + 1 by rw [HU.out.2.2.1, HSS.out]; omega] at hLI
 have HLI := Aside0.mk hLI
 have HX := Aside0.mk (And.intro hcu (And.intro hp31 hLV))
 subst eo2
 clear HO eo HB gb HO2 hcu hp31 hnv hLI hLV hgu hgv HB4 HB1
 go_loopg [12] (s + 1) (fun kq v12 w' => ∃ (z : Int) (U Q : List Int), v12 = .int .i64 z ∧ Aside0 (z = (kq : Int) - 1 ∧ kq ≤ s + 1) ∧ Aside0 (LdI ul (vl.take (n + 2)) n kq U Q) ∧ Aside0 (Tri w w' gu (la.length + 1) cu U gv (n + 2) cv (vl.take (n + 2)) go (s + 1) co Q))
 case atStart => exact ⟨_, _, _, rfl, ⟨by omega⟩, HLI, HT⟩
 case round =>
  clear HLI HT
  obtain ⟨z, U, Q, rfl, HK, HLI, HT⟩ := hrel
  cases gk with
  | zero =>
   obtain rfl : z = -1 := by have := HK.out.1; omega
   have hb9 : decide ((0 : Int) ≤ -1) = false := by decide
   have hn0 : 0 ≤ (n : Int) + 2 := by omega
   go_wp2_with ((with_reducible refine gate_dst (N := 106) rfl ?_); refine Kd.R_make (Kd.int .u32) _ 147 rfl (N := 106) rfl 127 _ _ rfl ((n : Int) + 2) rfl rfl Try.underlying127 (.int .u32 0) 4 info147 rfl (by decide) (by omega) 0 (ok := fun _ => True) (okp := fun _ => True) rfl (fun _ hk => hk) trivial hn0 (by omega) (Below.refl _ _) (Nat.le_refl _) ?_; intro v w5 ho hb hg_ hnew_; clear hg_ hnew_; have HO := Aside0.mk ho; have HB := Aside0.mk hb; clear ho hb)
   obtain ⟨gr, cr, eo, gb, _, _⟩ := Kd.R_form HO.out (by simp; omega)
   have eo2 : v = .slice (some ⟨gr, 0, none⟩) (n + 2) cr := by rw [eo]; simp; omega
   have HT2 := Aside0.mk (show Tri w w5 gu (la.length + 1) cu U go (s + 1) co Q gr (n + 2) cr (List.replicate (n + 2) 0) from
    ⟨Kd.R_below HT.out.u HB.out, Kd.R_below HT.out.q HB.out, by have := Kd.R_lower HO.out (Nat.zero_le _); rw [eo2] at this; rw [show ((n : Int) + 2).toNat = n + 2 by omega] at this; exact this, HT.out.b.trans (HB.out.mono HT.out.b.size)⟩)
   have hgr : gr ≠ gu ∧ gr ≠ go ∧ w.heap.size ≤ gr := by
    have a1 := Kd.R_lt HT.out.u gu rfl
    have a2 := Kd.R_lt HT.out.q go rfl
    have a3 := HT.out.b.size
    have a4 : wr.heap.size ≤ gr := gb
    omega
   obtain ⟨m1, m2, m3⟩ := hgr
   have HD0 := Aside0.mk (DnI.start U (2 ^ b) n)
   subst eo2
   clear HO eo HB gb HT
   go_loopg [108] (n + 2) (fun kq v108 w' => ∃ (i : Nat) (R : List Int), v108 = .int .i64 (i : Int) ∧ Aside0 (i + kq = n + 2) ∧ Aside0 (DnI U (2 ^ b) n i R) ∧ Aside0 (Tri w w' gu (la.length + 1) cu U go (s + 1) co Q gr (n + 2) cr R))
   case atStart => exact ⟨0, _, rfl, ⟨by omega⟩, HD0, HT2⟩
   case round =>
    clear HD0 HT2
    obtain ⟨i, R, rfl, HK2, HD, HT⟩ := hrel
    cases gk with
    | zero =>
     have hi : i = n + 2 := HK2.out
     have hb0 : decide ((i : Int) < (n : Int) + 2) = false := decide_eq_false (by omega)
     have HI2 := Aside0.mk hi
     clear hi
     go_wp2_with fail
     refine (trim_n _ Q _ _ _ HT.out.v HLI.out.dq (by rw [HLI.out.lq, HU.out.2.2.1]; omega)).mono ?_
     rintro e w6 ⟨v0, q, rfl, hM0, hc0, hv0, hl0, hb0⟩
     have HQ := Aside0.mk (And.intro hM0 (And.intro hc0 (And.intro hv0 (And.intro hl0 hb0))))
     clear hM0 hc0 hv0 hl0 hb0
     go_wp2_with fail
     refine (trim_n _ R _ _ _ (Kd.R_below HT.out.q HQ.out.2.2.2.2) HD.out.dg (by rw [HD.out.len]; omega)).mono ?_
     rintro e w7 ⟨v1, r, rfl, hM1, hc1, hv1, hl1, hb1⟩
     have HR1 := Aside0.mk (And.intro hM1 (And.intro hc1 (And.intro hv1 (And.intro hl1 hb1))))
     clear hM1 hc1 hv1 hl1 hb1
     go_wp2_with fail
     go_ret2
     obtain ⟨hM0, hc0, hv0, hl0, hb0⟩ := HQ.out
     obtain ⟨hM1, hc1, hv1, hl1, hb1⟩ := HR1.out
     have hE := div_end (pp := 2 ^ (32 - b)) HLI.out (HI2.out ▸ HD.out) (Int.pow_pos (by decide)) (by rw [← Int.pow_add, show b + (32 - b) = 32 by omega]; decide) HX.out.2.2 HVD.out.1 (by rw [HLI.out.lU, HU.out.2.2.1]; omega) HVD.out.2.1 HU.out.2.2.2.1
     refine ⟨_, _, q, r, rfl, hM0.below hb1, hM1, hc0, hc1, ?_, ?_, ?_, ?_, HT.out.b.trans ((hb0.mono HT.out.b.size).trans (hb1.mono (HT.out.b.trans (hb0.mono HT.out.b.size)).size))⟩
     ·have := HLI.out.lq
      rw [HU.out.2.2.1] at this
      omega
     ·have := HD.out.len
      have := HL.out.2
      omega
     ·rw [hv0, hv1]; exact hE.1
     ·rw [hv1]; exact hE.2
    | succ k2 =>
     have hi : i < n + 2 := by have := HK2.out; omega
     have hi1000 : i < 1000000 := by omega
     have hb0 : decide ((i : Int) < (n : Int) + 2) = true := decide_eq_true (by omega)
     have hbn : 0 ≤ (b : Int) := by omega
     have hw2 : ((i : Int) + 1).toNat = i + 1 := by omega
     have hw3 : 0 ≤ (i : Int) + 1 := by omega
     have hw4 : (i : Int) + 1 < (la.length : Int) + 1 := by omega
     have hw5 : (i : Int) < (la.length : Int) + 1 := by omega
     have hw6 : (i : Int) < (n : Int) + 2 := by omega
     have hc0 := HT.out.cells i (by omega)
     have hc1 := HT.out.cells (i + 1) (by omega)
     obtain ⟨hy1, hz1⟩ := HT.out.qcell i hi
     have hst := HD.out.step (pp := 2 ^ (32 - b)) HLI.out.dU (Int.pow_pos (by decide)) (by rw [← Int.pow_add, show b + (32 - b) = 32 by omega]; decide) hi
     have hu0 := HLI.out.dU.getD (by decide) i
     have hu1 := HLI.out.dU.getD (by decide) (i + 1)
     generalize U.getD i 0 = u0 at hc0 hst hu0
     generalize U.getD (i + 1) 0 = u1 at hc1 hst hu1
     obtain ⟨hu00, hu01⟩ := hu0
     obtain ⟨hu10, hu11⟩ := hu1
     have hor : bits BinOp.or IntKind.u64 (u1 * 4294967296) u0 = u1 * 4294967296 + u0 := or_high _ _ 32 (by omega) (by omega) (by omega) hu00 (by omega) (by omega)
     have hv1 : IntKind.u64.wrap u1 = u1 := u64 hu10 (Int.lt_trans hu11 (by decide))
     have hv2 : IntKind.u64.wrap (u1 * 4294967296) = u1 * 4294967296 := u64k hu10 hu11
     have hv3 : IntKind.u64.wrap u0 = u0 := u64 hu00 (Int.lt_trans hu01 (by decide))
     have hw1 : wrap64 ((i : Int) + 1) = (i : Int) + 1 := w64n i hi1000
     rw [← u32m] at hst
     have HST := Aside0.mk hst
     clear hst
     go_wp2_with fail
     refine start_ (n := 20) (S := fun w' => w'.cell? ⟨gu, i, none⟩ = some (.int .u32 u0) ∧ w'.cell? ⟨gu, i + 1, none⟩ = some (.int .u32 u1) ∧ w'.cell? ⟨gr, i, none⟩ = some (.int .u32 (R.getD i 0)) ∧ w'.frozen? ⟨gr, i, none⟩ = false) (ds := [19]) (bs 20 0) (by kernel_rfl) rfl rfl ⟨hc0, hc1, hy1, hz1⟩ (fun hHeld => ?_)
     refine zP 0 111 20 1 ?_
     refine zP 1 112 20 3 ?_
     refine zP 2 113 20 7 ?_
     refine zP 3 114 20 15 ?_
     refine zP 4 115 20 31 ?_
     refine zP 5 116 20 63 ?_
     refine zP 9 120 20 575 ?_
     refine zP 10 121 20 1599 ?_
     refine zP 11 122 20 3647 ?_
     refine zP 15 126 20 36415 ?_
     refine zT 6 117 20 36479 hHeld ?_
     refine zP 7 118 20 36607 ?_
     refine zP 8 119 20 36863 ?_
     refine zT 12 123 20 40959 hHeld ?_
     refine zP 13 124 20 49151 ?_
     refine zP 14 125 20 65535 ?_
     refine zP 16 127 20 131071 ?_
     refine zP 17 128 20 262143 ?_
     refine zP 18 129 20 524287 ?_
     refine zL 19 none 20 1048575 (fun K hK => ?_)
     refine skip_ (w1 := ?_) (by rfl) rfl ?_ ?_
     rotate_left
     ·(go_simp; with_reducible rfl)
     refine hK.out _ _ ?_
     clear hK K
     refine done_ (by kernel_rfl) ?_
     have HT9 := Aside0.mk ((HT.out.put m1.symm m2.symm m3 i (IntKind.u32.wrap ((u1 * 4294967296 + u0) / 2 ^ b))).drewN 1)
     generalize hW : World.drew _ = WW
     have HT10 := Aside0.mk (show Tri w WW gu (la.length + 1) cu U go (s + 1) co Q gr (n + 2) cr (R.set i (IntKind.u32.wrap ((u1 * 4294967296 + u0) / 2 ^ b))) from by rw [← hW]; exact HT9.out)
     have HK3 := Aside0.mk (And.intro HK2.out HST.out)
     clear hW HT9 HT hor hv1 hv2 hv3 hw1 HST hc0 hc1 hy1 hz1 hw2 hw3 hw4 hw5 hu00 hu01 hu10 hu11
     go_wp2_with fail
     go_roundg k2
     case measure => omega
     case rel =>
      exact ⟨i + 1, _, by simp, ⟨by have := HK3.out.1; omega⟩, ⟨HK3.out.2⟩, HT10⟩
  | succ k1 =>
   obtain rfl : z = (k1 : Int) := by have := HK.out.1; omega
   have hk : k1 < s + 1 := by have := HK.out.2; omega
   have hcut : (k1 : Int) + ((n : Int) + 2) + 1 ≤ (cu : Int) := by have := HX.out.1; have := HSS.out; omega
   have hcut0 : 0 ≤ (k1 : Int) + ((n : Int) + 2) + 1 := by omega
   have hcut1 : k1 ≤ k1 + (n + 2) + 1 := by omega
   obtain ⟨w1, w2', w3', w4', w5', w6'⟩ := HLI.out.win HX.out.2.2 HVD.out.1 (by rw [HU.out.2.2.1, HSS.out]; omega)
   have hdg := digit_n wr wr gu gv (la.length + 1) cu cv n (cu - k1) (U.take k1) (U.drop (k1 + (n + 3))) ((U.drop k1).take (n + 3)) (vl.take (n + 2)) (fun h => n3 h.symm) (HT.out.two w1) HX.out.2.2 w3' HVD.out.1 w4' HVD.out.2.2 w6' (by omega) (by omega)
   rw [w2'] at hdg
   have HDG := Aside0.mk hdg
   obtain ⟨hy1, hz1⟩ := HT.out.qcell k1 hk
   clear w1 w2' w3' w4' w5' w6' hdg
   go_wp2_with fail
   ·rw [show k1 + (n + 2) + 1 - k1 = n + 3 by omega]
    refine HDG.out.mono ?_
    rintro e w6 ⟨q, Y', rfl, hTw, lY, dY, hq0, hq1, hqv, hqlt⟩
    have HT6 := Aside0.mk (HT.out.dug hTw n1 n4)
    have hst := HLI.out.step HX.out.2.2 HVD.out.1 (by rw [HU.out.2.2.1, HSS.out]; omega) lY dY hq0 hq1 hqv hqlt
    have HST := Aside0.mk hst
    obtain ⟨hy6, hz6⟩ := HT6.out.qcell k1 hk
    clear hTw lY dY hqv hqlt hst hy1 hz1 HDG
    go_wp2_with fail
    go_roundg k1
    case measure => omega
    case rel => exact ⟨_, _, _, rfl, ⟨by have := HK.out; omega⟩, HST, ⟨HT6.out.put (fun h => n1 h.symm) (fun h => n2 h.symm) n6 k1 _⟩⟩
end Go.Proofs.Ytknklchmpohjfaa.Dc
namespace Go.Proofs.Ytknklchmpohjfaa.Qa
open Go.RowKit Go Go.Proofs.YtknklchmpohjfaaW.PrintWords Go.Proofs.YtknklchmpohjfaaW.PrintLast Go.Proofs.YtknklchmpohjfaaW.PrintMore Go.Proofs.Ytknklchmpohjfaa.Ml Go.Proofs.Ytknklchmpohjfaa.Mn Go.Proofs.Ytknklchmpohjfaa.Nd Go.Proofs.Ytknklchmpohjfaa.Z Go.Proofs.Ytknklchmpohjfaa.P Go.Proofs.Ytknklchmpohjfaa.Nc Go.Proofs.Ytknklchmpohjfaa.Na Go.Proofs.Ytknklchmpohjfaa.Nb Go.Proofs.Ytknklchmpohjfaa.Ns Go.Proofs.Ytknklchmpohjfaa.Da Go.Proofs.Ytknklchmpohjfaa.Dc
attribute [local go_sem] max2_int min2_int max_two min_two
set_option linter.unusedVariables false
set_option linter.unusedSimpArgs false
theorem divMag_n (A0 : Option Addr) (c0 : Nat) (la : List Int) (A1 : Option Addr) (c1 : Nat) (lb : List Int) (w : World) (h0 : la.length ≤ c0) (r0 : Kd.C (Kd.int .u32) w A0 la.length la) (h1 : lb.length ≤ c1) (r1 : Kd.C (Kd.int .u32) w A1 lb.length lb) (ha : Cn 4294967296 la) (hb : Cn 4294967296 lb) (hp : lb ≠ []) (hn : la.length ≤ 1000) (hm : lb.length ≤ 1000) :
  Calls Try.prog 106 #[.slice A0 la.length c0, .slice A1 lb.length c1] w (DivP w la lb) := by
 by_cases hlt : dv 4294967296 la < dv 4294967296 lb
 ·exact divMag_a A0 c0 la A1 c1 lb w h0 r0 h1 r1 ha hb hn hm hlt
 ·rcases lb with _ | ⟨x, _ | ⟨y, t⟩⟩
  ·exact absurd rfl hp
  ·exact divMag_b A0 c0 la A1 c1 x w h0 r0 h1 r1 ha hb hn (by omega)
  ·exact divMag_c A0 c0 la A1 c1 t.length (x :: y :: t) w h0 r0 (by simpa using h1) r1 (by simp) ha hb hn (by simp at hm; omega) (by omega)
theorem Wrote.room {w w' : World} {g o g2 o2 : Nat} (h : Wrote w w' g o) (hr : Room w g2 o2) (hne : g2 ≠ g) : Room w' g2 o2 := by
 obtain ⟨n, v, hs⟩ := hr
 exact ⟨n, v, h.slot hs (.inl hne)⟩
set_option maxHeartbeats 4000000 in
theorem signI_n (ga oa : Nat) (a : Int) (na : Nat) (w : World) (ha : IsN w ga oa a na) :
  Calls Try.prog 93 #[.pointer (some ⟨ga, oa, none⟩)] w (ValP w (.int .i64 (cmpI a 0))) := by
 obtain ⟨nega, Aa, cca, la, sa, hca, ra, ca, hla, hza, qa⟩ := ha.open
 have a0 := sa.cell0
 have a1 := sa.cell1
 have hz : la = [] → cmpI a 0 = 0 := by
  intro h; rw [hza, h]; cases nega <;> simp [sg, dv, cmpI]
 have hp : la ≠ [] → 0 < dv 4294967296 la := by
  intro h
  have h1 := dv_len (a := []) (by decide) (Dg.nil _) ca (by cases la with | nil => exact absurd rfl h | cons x t => simp)
  simpa only [dv] using h1
 cases la with
 | nil =>
  rw [hz rfl]
  clear hz hp hza qa ha
  go_enter Try.func93, Try.ntmps93
  go_wp2_with fail
  go_ret
  exact ⟨rfl, Below.refl _ _⟩
 | cons x t =>
  have hp1 := hp (by simp)
  have hb0 : ((((x :: t).length : Nat) : Int) == 0) = false := by simp; omega
  cases nega with
  | true =>
   rw [show cmpI a 0 = -1 by rw [hza]; simp [sg, cmpI]; omega]
   clear hz hp hza qa ha hp1
   go_enter Try.func93, Try.ntmps93
   go_wp2_with fail
   go_ret
   exact ⟨rfl, Below.refl _ _⟩
  | false =>
   rw [show cmpI a 0 = 1 by rw [hza]; simp [sg, cmpI]; omega]
   clear hz hp hza qa ha hp1
   go_enter Try.func93, Try.ntmps93
   go_wp2_with fail
   go_ret
   exact ⟨rfl, Below.refl _ _⟩
structure LwI (la : List Int) (k : Nat) (v : Int) : Prop where
 v0 : 0 ≤ v
 v1 : v < pw 4294967296 (min 2 la.length - k)
 val : v = dv 4294967296 ((la.take 2).drop k)
theorem LwI.start (la : List Int) : LwI la (min 2 la.length) 0 := by
 refine ⟨by omega, by simp [pw], ?_⟩
 rw [List.drop_of_length_le (by simp [List.length_take])]
 rfl
theorem LwI.step {la : List Int} {k : Nat} {v : Int} (h : LwI la (k + 1) v) (hd : Dg 4294967296 la) (hk : k < min 2 la.length) : v < 4294967296 ∧ LwI la k (v * 4294967296 + la.getD k 0) := by
 have h1 := hd.getD (by decide) k
 have h2 : v < 4294967296 := by
  have := h.v1
  have h3 : min 2 la.length - (k + 1) = 0 ∨ min 2 la.length - (k + 1) = 1 := by omega
  rcases h3 with h3 | h3 <;> rw [h3] at this <;> simp [pw] at this <;> omega
 have e1 := dv_drop 4294967296 (la.take 2) k (by rw [List.length_take]; exact hk)
 have e2 : (la.take 2).getD k 0 = la.getD k 0 := by
  simp only [List.getD_eq_getElem?_getD, List.getElem?_take]
  rw [if_pos (by omega)]
 refine ⟨h2, by have := h.v0; omega, ?_, ?_⟩
 ·have h4 := dv_lt (by decide) ((hd.take 2).drop k)
  rw [List.length_drop, List.length_take] at h4
  have h5 := h.val
  have : v * 4294967296 + la.getD k 0 = dv 4294967296 ((la.take 2).drop k) := by rw [e1, e2, h5]; omega
  rw [this]
  exact h4
 ·rw [e1, e2, h.val]; omega
end Go.Proofs.Ytknklchmpohjfaa.Qa
namespace Go.Proofs.Ytknklchmpohjfaa.Ea
open Go.RowKit Go Go.Proofs.YtknklchmpohjfaaW.PrintWords Go.Proofs.YtknklchmpohjfaaW.PrintLast Go.Proofs.YtknklchmpohjfaaW.PrintMore Go.Proofs.Ytknklchmpohjfaa.Ml Go.Proofs.Ytknklchmpohjfaa.Mn Go.Proofs.Ytknklchmpohjfaa.Nd Go.Proofs.Ytknklchmpohjfaa.Z Go.Proofs.Ytknklchmpohjfaa.P Go.Proofs.Ytknklchmpohjfaa.Nc Go.Proofs.Ytknklchmpohjfaa.Nb Go.Proofs.Ytknklchmpohjfaa.Qa
set_option linter.unusedVariables false
set_option linter.unusedSimpArgs false
def lowN (n d : Int) : Int := n / (Int.gcd n d : Int)
def lowD (n d : Int) : Int := d / (Int.gcd n d : Int)
end Go.Proofs.Ytknklchmpohjfaa.Ea
namespace Go.Proofs.Ytknklchmpohjfaa.Ra
open Go.RowKit Go Go.Proofs.YtknklchmpohjfaaW.PrintWords Go.Proofs.YtknklchmpohjfaaW.PrintLast Go.Proofs.YtknklchmpohjfaaW.PrintMore Go.Proofs.Ytknklchmpohjfaa.Ml Go.Proofs.Ytknklchmpohjfaa.Mn Go.Proofs.Ytknklchmpohjfaa.Nd Go.Proofs.Ytknklchmpohjfaa.Z Go.Proofs.Ytknklchmpohjfaa.P Go.Proofs.Ytknklchmpohjfaa.Nc Go.Proofs.Ytknklchmpohjfaa.Nb Go.Proofs.Ytknklchmpohjfaa.Da Go.Proofs.Ytknklchmpohjfaa.Qa Go.Proofs.Ytknklchmpohjfaa.Ea
set_option linter.unusedVariables false
set_option linter.unusedSimpArgs false
def ratN (n d : Int) : Int := if d < 0 then lowN (-n) (-d) else lowN n d
def ratD (n d : Int) : Int := if d < 0 then lowD (-n) (-d) else lowD n d
structure GcI (w0 w : World) (a b : Int) (n : Nat) (vg vr : Value) (k : Nat) : Prop where mk ::
 at_ : ∃ Ag cg lg Ar cr lr, vg = .slice Ag (List.length lg) cg ∧ vr = .slice Ar (List.length lr) cr ∧ lg.length ≤ cg ∧ lr.length ≤ cr ∧ Kd.C (Kd.int .u32) w Ag lg.length lg ∧ Kd.C (Kd.int .u32) w Ar lr.length lr ∧ Cn 4294967296 lg ∧ Cn 4294967296 lr ∧ lg.length ≤ n ∧ lr.length ≤ n ∧ Int.gcd (dv 4294967296 lg) (dv 4294967296 lr) = Int.gcd a b ∧ dv 4294967296 lr ≤ (k : Int)
 b : Below w0.heap.size w0 w
theorem dv_pos {l : List Int} (h : Cn 4294967296 l) (hl : l ≠ []) : 0 < dv 4294967296 l := by
 have h1 := dv_len (a := []) (by decide) (Dg.nil _) h (by cases l with | nil => exact absurd rfl hl | cons x t => simp)
 simpa only [dv] using h1
theorem gcd_step {x y q r : Int} (h : x = q * y + r) : Int.gcd y r = Int.gcd x y := by
 rw [h, Int.gcd_comm (q * y + r) y, Int.mul_comm]
 simp
theorem quo_exact {x g q r : Int} (hg : 0 < g) (hd : g ∣ x) (h0 : 0 ≤ r) (h1 : r < g) (h : x = q * g + r) : q = x / g := by
 have : x / g = q := by
  rw [h, Int.add_comm, Int.add_mul_ediv_right _ _ (by omega), Int.ediv_eq_zero_of_lt h0 h1]
  omega
 exact this.symm
theorem sg_quo {na nb : Bool} {a b A B G : Int} (ha : a = sg na A) (hb : b = sg nb B) (hA : 0 ≤ A) (hB : 0 < B) (hG : G = (Int.gcd a b : Nat)) : sg (!(na == nb)) (A / G) = ratN a b ∧ B / G = ratD a b := by
 have e : ∀ n : Int, Int.gcd (-n) b = Int.gcd n b := fun n => Int.neg_gcd
 have dA : G ∣ A := by
  have : G ∣ a := by rw [hG]; exact Int.gcd_dvd_left _ _
  rw [ha] at this
  cases na
  ·simpa [sg] using this
  ·simpa [sg] using this
 unfold ratN ratD lowN lowD
 cases nb with
 | true =>
  have hb' : b = -B := by simpa [sg] using hb
  rw [if_pos (by omega), if_pos (by omega)]
  rw [show Int.gcd (-a) (-b) = Int.gcd a b by rw [Int.neg_gcd, Int.gcd_neg], ← hG, hb', Int.neg_neg]
  cases na with
  | true =>
   have ha' : a = -A := by simpa [sg] using ha
   rw [ha', Int.neg_neg]
   exact ⟨rfl, rfl⟩
  | false =>
   have ha' : a = A := by simpa [sg] using ha
   rw [ha', Int.neg_ediv_of_dvd dA]
   exact ⟨rfl, rfl⟩
 | false =>
  have hb' : b = B := by simpa [sg] using hb
  rw [if_neg (by omega), if_neg (by omega), ← hG, hb']
  cases na with
  | true =>
   have ha' : a = -A := by simpa [sg] using ha
   rw [ha', Int.neg_ediv_of_dvd dA]
   exact ⟨rfl, rfl⟩
  | false =>
   have ha' : a = A := by simpa [sg] using ha
   rw [ha']
   exact ⟨rfl, rfl⟩
theorem sg_dvd {s : Bool} {x z g : Int} (h : z = sg s x) (hd : g ∣ z) : g ∣ x := by
 subst h
 cases s
 ·simpa [sg] using hd
 ·simpa [sg] using hd
def SfP (w : World) (gx : Nat) (a b : Int) (na nb B : Nat) (e : Ending) (w' : World) : Prop := e = .returned (.pointer (some ⟨gx, 0, none⟩)) ∧ Below B w w' ∧ IsN w' gx 0 (ratN a b) na ∧ IsN w' gx 2 (ratD a b) nb
theorem sg_bne (a b : Bool) : (a != b) = !(a == b) := by cases a <;> cases b <;> rfl
set_option maxHeartbeats 8000000 in
set_option maxRecDepth 100000 in
theorem setFrac_n (gx ga oa gb ob : Nat) (a b : Int) (na nb B : Nat) (w : World) (hx0 : Room w gx 0) (hx2 : Room w gx 2) (ha : IsN w ga oa a na) (hb : IsN w gb ob b nb) (hbp : b ≠ 0) (hl : na + nb ≤ 1000) (hB1 : B ≤ gx) :
  Calls Try.prog 94 #[.pointer (some ⟨gx, 0, none⟩), .pointer (some ⟨ga, oa, none⟩), .pointer (some ⟨gb, ob, none⟩)] w (SfP w gx a b na nb B) := by
 obtain ⟨nega, Aa, cca, la, sa, hca, ra, ca, hla, hza, qa⟩ := ha.open
 obtain ⟨negb, Ab, ccb, lb, sb, hcb, rb, cb, hlb, hzb, qb⟩ := hb.open
 have a1 := sa.cell1
 have b1 := sb.cell1
 have lgx := hx0.lt
 go_enter Try.func94, Try.ntmps94
 go_wp2_with fail
 refine start_ (n := 11) (S := fun w' => w'.cell? ⟨ga, oa + 1, none⟩ = some (.slice Aa la.length cca) ∧ w'.cell? ⟨gb, ob + 1, none⟩ = some (.slice Ab lb.length ccb)) (ds := []) (bs 11 0) (by kernel_rfl) rfl rfl ⟨a1, b1⟩ (fun hHeld => ?_)
 refine zP 0 16 11 1 ?_
 refine zP 1 17 11 3 ?_
 refine zP 2 18 11 7 ?_
 refine zP 5 21 11 39 ?_
 refine zP 6 22 11 103 ?_
 refine zP 7 23 11 231 ?_
 refine zT 3 19 11 239 hHeld ?_
 refine zT 8 24 11 495 hHeld ?_
 refine zN 4 (some 20) 11 511 (fun K hK => ?_)
 refine zG Try.func105 #[.slice Aa la.length cca] ?_
 with_reducible refine (clone_n Aa cca la w.drew hca (Kd.C_drew ra) (by omega)).mono ?_
 rintro e w2 ⟨v4, rfl, hM4, hb4⟩
 refine ⟨_, rfl, ?_⟩
 have hb4' := below_drew' hb4
 refine hK.out _ _ ⟨(sa.below hb4').cell1, (sb.below hb4').cell1⟩ (fun hHeld => ?_)
 clear hK K
 refine zM 20 ?_
 refine zP 9 7 11 1023 ?_
 refine zP 10 8 11 2047 ?_
 refine done_ (by kernel_rfl) ?_
 obtain ⟨A4, c4, rfl, hc4, r4⟩ := hM4
 have HI := Aside0.mk (show GcI w w2 a b (na + nb) (.slice A4 la.length c4) (.slice Ab lb.length ccb) (dv 4294967296 lb).toNat from
  ⟨⟨A4, c4, la, Ab, ccb, lb, rfl, rfl, hc4, hcb, r4, Kd.C_below rb hb4', ca, cb, by omega, by omega, by
   have p0 := dv_nonneg (by decide) ca.dg
   have p1 := dv_nonneg (by decide) cb.dg
   rw [hza, hzb]
   cases nega <;> cases negb <;> simp [sg, Int.neg_gcd, Int.gcd_neg], by have := dv_nonneg (by decide) cb.dg; omega⟩, hb4'⟩)
 have HH := Aside0.mk (And.intro ha (And.intro hb (And.intro hx0 hx2)))
 clear hHeld r4 hb4 hb4' hc4 a1 b1
 go_wp2_with fail
 go_loopg [7, 8] (dv 4294967296 lb).toNat (fun kq v7 v8 w' => Aside0 (GcI w w' a b (na + nb) v7 v8 kq))
 case atStart => exact HI
 case round =>
  clear HI
  obtain ⟨⟨⟨Ag, cg, lg, Ar, cr, lr, rfl, rfl, hcg, hcr, rg, rr, cag, car, hlg, hlr, hgc, hk⟩, hbw⟩⟩ := hrel
  by_cases hr : lr = []
  ·subst hr
   have hG : dv 4294967296 lg = (Int.gcd a b : Nat) := by
    have h0 := dv_nonneg (by decide) cag.dg
    rw [← hgc]
    simp only [dv, Int.gcd_zero]
    omega
   have hgp : 0 < dv 4294967296 lg := by
    have := Int.gcd_pos_of_ne_zero_right a hbp
    omega
   have hgn : lg ≠ [] := by rintro rfl; simp [dv] at hgp
   have sa' := sa.below hbw
   have sb' := sb.below hbw
   have a1 := sa'.cell1
   have b1 := sb'.cell1
   have RA := Aside0.mk (And.intro (Kd.C_below ra hbw) (And.intro (Kd.C_below rb hbw) rg))
   have HW := Aside0.mk (And.intro hbw (And.intro hG hgp))
   clear hbw hG hgp hgc hk rr rg
   go_wp2_with fail
   refine (divMag_n Aa cca la Ag cg lg wr hca RA.out.1 hcg RA.out.2.2 ca cag hgn (by omega) (by omega)).mono ?_
   rintro e w3 ⟨v0, v1, q1, r1, rfl, hq1, hr1, cq1, cr1, lq1, lr1, eq1, lt1, hb3⟩
   have a1' := (sa'.below hb3).cell1
   have b1' := (sb'.below hb3).cell1
   have K1 := Aside0.mk (And.intro hq1 (And.intro (quo_exact HW.out.2.2 (sg_dvd hza (HW.out.2.1 ▸ Int.gcd_dvd_left _ _)) (dv_nonneg (by decide) cr1.dg) lt1 eq1) hb3))
   clear hq1 hr1 cr1 lr1 eq1 lt1 a1 b1
   have hbw3 := HW.out.1.trans (hb3.mono HW.out.1.size)
   have HB3 := Aside0.mk hbw3
   go_wp2_with fail
   refine (divMag_n Ab ccb lb Ag cg lg w3 hcb (Kd.C_below RA.out.2.1 hb3) hcg (Kd.C_below RA.out.2.2 hb3) cb cag hgn (by omega) (by omega)).mono ?_
   rintro e w4 ⟨v2, v3, q2, r2, rfl, hq2, hr2, cq2, cr2, lq2, lr2, eq2, lt2, hb4⟩
   have hbw4 := hbw3.trans (hb4.mono hbw3.size)
   have sa4 := sa.below hbw4
   have sb4 := sb.below hbw4
   have a0 := sa4.cell0
   have b0 := sb4.cell0
   have K2 := Aside0.mk (And.intro hq2 (And.intro (quo_exact HW.out.2.2 (sg_dvd hzb (HW.out.2.1 ▸ Int.gcd_dvd_right _ _)) (dv_nonneg (by decide) cr2.dg) lt2 eq2) hb4))
   have HB4 := Aside0.mk hbw4
   clear hq2 hr2 cr2 lr2 eq2 lt2 a1' b1' hb3 hb4 hbw3 hbw4 sa' sb' HB3
   go_wp2_with fail
   refine start_ (n := 10) (S := fun w' => w'.cell? ⟨ga, oa, none⟩ = some (.bool nega) ∧ w'.cell? ⟨gb, ob, none⟩ = some (.bool negb)) (ds := []) (bs 10 0) (by kernel_rfl) rfl rfl ⟨a0, b0⟩ (fun hHeld => ?_)
   refine zP 0 54 10 1 ?_
   refine zP 1 55 10 3 ?_
   refine zP 2 56 10 7 ?_
   refine zP 4 58 10 23 ?_
   refine zP 5 59 10 55 ?_
   refine zP 6 60 10 119 ?_
   refine zT 3 57 10 127 hHeld ?_
   refine zT 7 61 10 255 hHeld ?_
   refine zP 8 62 10 511 ?_
   refine zP 9 15 10 1023 ?_
   refine done_ (by kernel_rfl) ?_
   have X := HH.out.2.2
   have hb5 : Below w4.heap.size w4 w4.drew := below_drew' (Below.refl _ _)
   have hbw5 := HB4.out.trans (hb5.mono HB4.out.size)
   go_wp2_with fail
   refine (set_n gx 0 v0 q1 (nega != negb) na w4.drew (X.1.below hbw5) ((K1.out.1.below K2.out.2.2).below hb5) cq1 (by omega)).mono ?_
   rintro e w6 ⟨rfl, hw6, hN6⟩
   have K3 := Aside0.mk (And.intro hw6 (And.intro hN6 (And.intro hbw5 ((K2.out.1.below hb5)))))
   clear hw6 hN6 hbw5 hb5 X
   go_wp2_with fail
   have hr2' : Room w6 gx 2 := by
    obtain ⟨n2, v2', h2⟩ := HH.out.2.2.2.below K3.out.2.2.1
    exact ⟨n2, v2', K3.out.1.slot h2 (.inr (by omega))⟩
   refine (set_n gx 2 v2 q2 false nb w6 hr2' (K3.out.1.mag (HH.out.2.2.1.below K3.out.2.2.1) K3.out.2.2.2) cq2 (by omega)).mono ?_
   rintro e w7 ⟨rfl, hw7, hN7⟩
   have K4 := Aside0.mk (And.intro hw7 hN7)
   clear hw7 hN7
   go_wp2_with fail
   go_ret
   have hsq := sg_quo hza hzb (dv_nonneg (by decide) ca.dg) (dv_pos cb (by rintro rfl; cases negb <;> simp [dv, sg] at hzb <;> exact hbp hzb)) HW.out.2.1
   rw [← K1.out.2.1, ← K2.out.2.1, ← sg_bne] at hsq
   have hs0 := K3.out.2.2.1.size
   refine ⟨rfl, ?_, hsq.1 ▸ K4.out.1.isN hr2' K3.out.2.1 (.inr (by omega)), hsq.2 ▸ K4.out.2⟩
   have hB : Below B w w4.drew := ⟨K3.out.2.2.1.os, K3.out.2.2.1.tape, K3.out.2.2.1.output, K3.out.2.2.1.size, fun i hi => K3.out.2.2.1.block i (by omega)⟩
   exact hB.trans ((K3.out.1.below hB1 (by omega)).trans (K4.out.1.below hB1 (by have := K3.out.1.size; omega)))
  ·cases gk with
   | zero =>
    exfalso
    have := dv_pos car hr
    omega
   | succ k1 =>
    have hpos : 0 < lr.length := by cases lr with | nil => exact absurd rfl hr | cons x t => simp
    have HW := Aside0.mk (And.intro hbw (And.intro hgc hk))
    have HR := Aside0.mk rr
    have HG := Aside0.mk rg
    clear hbw hgc hk rr rg
    go_wp2_with fail
    refine (divMag_n Ag cg lg Ar cr lr wr hcg HG.out hcr HR.out cag car hr (by omega) (by omega)).mono ?_
    rintro e w3 ⟨v0, v1, q1, r1, rfl, hq1, hr1, cq1, cr1, lq1, lr1, eq1, lt1, hb3⟩
    obtain ⟨A5, c5, rfl, hc5, r5⟩ := hr1
    have HW3 := Aside0.mk (HW.out.1.trans (hb3.mono HW.out.1.size))
    have HN := Aside0.mk (show GcI w w3 a b (na + nb) (.slice Ar lr.length cr) (.slice A5 r1.length c5) k1 from
     ⟨⟨Ar, cr, lr, A5, c5, r1, rfl, rfl, hcr, hc5, Kd.C_below HR.out hb3, r5, car, cr1, hlr, by omega, (gcd_step eq1).trans HW.out.2.1, by have := HW.out.2.2; omega⟩, HW3.out⟩)
    clear hq1 eq1 lt1 hb3 r5
    go_wp2_with fail
    go_roundg k1
    case measure => omega
    case rel => exact HN
theorem down_n (gx : Nat) (z : Int) (n : Nat) (w : World) (h : IsN w gx 2 z n) (hz : z ≠ 0) :
  Calls Try.prog 96 #[.pointer (some ⟨gx, 0, none⟩)] w (fun e w' => e = .returned (.pointer (some ⟨gx, 2, none⟩)) ∧ w = w') := by
 obtain ⟨neg, A, c, l, s, hc, r, cn, hl, hz2, q⟩ := h.open
 have a1 := s.cell1
 have hln : ((l.length : Int) == 0) = false := by
  cases l with
  | nil => exfalso; cases neg <;> simp [dv, sg] at hz2 <;> exact hz hz2
  | cons x t => simp; omega
 go_enter Try.func96, Try.ntmps96
 go_wp2_with fail
 go_ret
 exact ⟨rfl, rfl⟩
end Go.Proofs.Ytknklchmpohjfaa.Ra
namespace Go.Proofs.Ytknklchmpohjfaa.Rf
open Go.RowKit Go Go.Proofs.YtknklchmpohjfaaW.PrintWords Go.Proofs.YtknklchmpohjfaaW.PrintLast Go.Proofs.YtknklchmpohjfaaW.PrintMore Go.Proofs.Ytknklchmpohjfaa.Ml Go.Proofs.Ytknklchmpohjfaa.Mn Go.Proofs.Ytknklchmpohjfaa.Nd Go.Proofs.Ytknklchmpohjfaa.Z Go.Proofs.Ytknklchmpohjfaa.P Go.Proofs.Ytknklchmpohjfaa.Nc Go.Proofs.Ytknklchmpohjfaa.Nb Go.Proofs.Ytknklchmpohjfaa.Qa Go.Proofs.Ytknklchmpohjfaa.Ea Go.Proofs.Ytknklchmpohjfaa.Ra
set_option linter.unusedVariables false
set_option linter.unusedSimpArgs false
def qq (a b : Int) : Rat := Rat.divInt a b
theorem rat_low {a b : Int} (hb : b ≠ 0) : ratN a b = (qq a b).num ∧ ratD a b = ((qq a b).den : Int) := by
 unfold qq ratN ratD lowN lowD
 rw [Rat.num_divInt, Rat.den_divInt, if_neg hb]
 rcases Int.lt_or_le b 0 with h | h
 ·rw [if_pos h, if_pos h, Int.sign_eq_neg_one_of_neg h, Int.neg_gcd, Int.gcd_neg, Int.gcd_comm b a]
  refine ⟨by rw [Int.neg_one_mul], ?_⟩
  rw [Int.natCast_ediv, Int.ofNat_natAbs_of_nonpos (by omega)]
 ·rw [if_neg (by omega), if_neg (by omega), Int.sign_eq_one_of_pos (by omega), Int.gcd_comm b a]
  refine ⟨by rw [Int.one_mul], ?_⟩
  rw [Int.natCast_ediv, Int.natAbs_of_nonneg h]
structure RQ (w : World) (g : Nat) (q : Rat) (n : Nat) : Prop where
 num : IsN w g 0 q.num n
 den : IsN w g 2 (q.den : Int) n
theorem RQ.below {w w' : World} {g : Nat} {q : Rat} {n : Nat} (h : RQ w g q n) (hb : Below w.heap.size w w') : RQ w' g q n := ⟨h.num.below hb, h.den.below hb⟩
theorem RQ.mono {w : World} {g : Nat} {q : Rat} {n m : Nat} (h : RQ w g q n) (hm : n ≤ m) : RQ w g q m := ⟨h.num.mono hm, h.den.mono hm⟩
theorem RQ.lt {w : World} {g : Nat} {q : Rat} {n : Nat} (h : RQ w g q n) : g < w.heap.size := h.num.lt
theorem den0 (q : Rat) : ((q.den : Int)) ≠ 0 := by have := q.den_pos; omega
theorem qq_mul (p q : Rat) : qq (p.num * q.num) ((p.den : Int) * (q.den : Int)) = p * q := by
 unfold qq
 rw [← Rat.divInt_mul_divInt, Rat.num_divInt_den, Rat.num_divInt_den]
def cmpQ (p q : Rat) : Int := if p < q then -1 else if q < p then 1 else 0
theorem cmp_q (p q : Rat) : cmpI (p.num * (q.den : Int)) (q.num * (p.den : Int)) = cmpQ p q := by
 unfold cmpI cmpQ
 simp only [Rat.lt_iff]
def QP (w : World) (q : Rat) (n : Nat) (e : Ending) (w' : World) : Prop := ∃ g, w.heap.size ≤ g ∧ e = .returned (.pointer (some ⟨g, 0, none⟩)) ∧ Below w.heap.size w w' ∧ RQ w' g q n
def QS (w : World) (g : Nat) (q : Rat) (n B : Nat) (e : Ending) (w' : World) : Prop := e = .returned (.pointer (some ⟨g, 0, none⟩)) ∧ Below B w w' ∧ RQ w' g q n
theorem setQ_n (gx ga oa gb ob : Nat) (a b : Int) (n B : Nat) (w : World) (hx0 : Room w gx 0) (hx2 : Room w gx 2) (ha : IsN w ga oa a n) (hb : IsN w gb ob b n) (hbp : b ≠ 0) (hl : n ≤ 500) (hB1 : B ≤ gx) :
  Calls Try.prog 94 #[.pointer (some ⟨gx, 0, none⟩), .pointer (some ⟨ga, oa, none⟩), .pointer (some ⟨gb, ob, none⟩)] w (QS w gx (qq a b) n B) :=
 (setFrac_n gx ga oa gb ob a b n n B w hx0 hx2 ha hb hbp (by omega) hB1).mono fun e w' ⟨h1, h2, h3, h4⟩ => ⟨h1, h2, (rat_low hbp).1 ▸ h3, (rat_low hbp).2 ▸ h4⟩
theorem room_rat0 (w : World) : Room (w.alloc (.cells #[.bool false, .slice none 0 0, .bool false, .slice none 0 0] 131)) w.heap.size 0 :=
 ⟨false, .slice none 0 0, ⟨_, 131, blk_new w _, ⟨none, 0, 0, rfl⟩, rfl, rfl⟩⟩
theorem room_rat2 (w : World) : Room (w.alloc (.cells #[.bool false, .slice none 0 0, .bool false, .slice none 0 0] 131)) w.heap.size 2 :=
 ⟨false, .slice none 0 0, ⟨_, 131, blk_new w _, ⟨none, 0, 0, rfl⟩, rfl, rfl⟩⟩
set_option maxHeartbeats 2000000 in
theorem prod_n (ga oa gb ob : Nat) (a b : Int) (na nb : Nat) (w : World) (ha : IsN w ga oa a na) (hb : IsN w gb ob b nb) (hl : na + nb ≤ 1000) :
  Calls Try.prog 95 #[.pointer (some ⟨ga, oa, none⟩), .pointer (some ⟨gb, ob, none⟩)] w (NewP w (a * b) (na + nb)) := by
 have hb1 : Below w.heap.size w (w.alloc (.cells #[.bool false, .slice none 0 0] 129)) := below_alloc (Below.refl _ w) _
 have HM := Aside0.mk (mul_n w.heap.size 0 ga oa gb ob a b na nb _ (room_new w) (ha.below hb1) (hb.below hb1) hl)
 have HB := Aside0.mk hb1
 clear ha hb hb1
 go_enter Try.func95, Try.ntmps95
 go_wp2_with fail
 refine HM.out.mono ?_
 rintro e w2 ⟨rfl, hw, hN⟩
 have H := Aside0.mk (And.intro hw hN)
 clear hw hN
 go_wp2_with fail
 go_ret
 exact ⟨_, Nat.le_refl _, rfl, HB.out.trans (H.out.1.below (Nat.le_refl _) HB.out.size), H.out.2⟩
set_option maxHeartbeats 4000000 in
theorem newRat_n (a b : Int) (w : World) (a0 : -9223372036854775808 ≤ a) (a1 : a ≤ 9223372036854775807) (b0 : -9223372036854775808 ≤ b) (b1 : b ≤ 9223372036854775807) (hb : b ≠ 0) :
  Calls Try.prog 85 #[.int .i64 a, .int .i64 b] w (QP w (qq a b) 2) := by
 have hb1 : Below w.heap.size w (w.alloc (.cells #[.bool false, .slice none 0 0, .bool false, .slice none 0 0] 131)) := below_alloc (Below.refl _ w) _
 have HR := Aside0.mk (And.intro (room_rat0 w) (And.intro (room_rat2 w) hb1))
 have HA := Aside0.mk (And.intro (And.intro a0 a1) (And.intro (And.intro b0 b1) hb))
 clear a0 a1 b0 b1 hb hb1
 go_enter Try.func85, Try.ntmps85
 go_wp2_with fail
 generalize hW : w.alloc (.cells #[.bool false, .slice none 0 0, .bool false, .slice none 0 0] 131) = W at *
 refine (newInt_n a W HA.out.1.1 HA.out.1.2).mono ?_
 rintro e w2 ⟨g2, hg2, rfl, hb2, hN2⟩
 have H2 := Aside0.mk (And.intro hb2 hN2)
 clear hb2 hN2
 go_wp2_with fail
 refine (newInt_n b w2 HA.out.2.1.1 HA.out.2.1.2).mono ?_
 rintro e w3 ⟨g3, hg3, rfl, hb3, hN3⟩
 have H3 := Aside0.mk (And.intro hb3 hN3)
 clear hb3 hN3
 go_wp2_with fail
 refine (setQ_n w.heap.size g2 0 g3 0 a b 2 w.heap.size w3 ((HR.out.1.below H2.out.1).below H3.out.1) ((HR.out.2.1.below H2.out.1).below H3.out.1) (H2.out.2.below H3.out.1) H3.out.2 HA.out.2.2 (by omega) (Nat.le_refl _)).mono ?_
 rintro e w4 ⟨rfl, hb4, hQ⟩
 have H4 := Aside0.mk (And.intro hb4 hQ)
 clear hb4 hQ
 go_wp2_with fail
 go_ret
 have s1 := HR.out.2.2.size
 have s2 := H2.out.1.size
 exact ⟨_, Nat.le_refl _, rfl, HR.out.2.2.trans ((H2.out.1.mono s1).trans ((H3.out.1.mono (by omega)).trans H4.out.1)), H4.out.2⟩
set_option maxHeartbeats 4000000 in
set_option maxRecDepth 100000 in
theorem mulQ_n (gx gy gz : Nat) (p q : Rat) (n m B : Nat) (w : World) (hx0 : Room w gx 0) (hx2 : Room w gx 2) (hy : RQ w gy p n) (hz : RQ w gz q m) (hl : n + m ≤ 400) (hB : B ≤ gx) :
  Calls Try.prog 80 #[.pointer (some ⟨gx, 0, none⟩), .pointer (some ⟨gy, 0, none⟩), .pointer (some ⟨gz, 0, none⟩)] w (QS w gx (p * q) (n + m) B) := by
 have HX := Aside0.mk (And.intro (And.intro hx0 hx2) (And.intro hy hz))
 have hgx := hx0.lt
 clear hx0 hx2 hy hz
 go_enter Try.func80, Try.ntmps80
 go_wp2_with fail
 have hb0 : Below w.heap.size w w.drew := below_drew' (Below.refl _ _)
 refine start_ (n := 15) (S := fun w' => True) (ds := []) (bs 15 0) (by kernel_rfl) rfl rfl trivial (fun hHeld => ?_)
 refine zP 0 7 15 1 ?_
 refine zP 1 8 15 3 ?_
 refine zP 2 9 15 7 ?_
 refine zP 3 10 15 15 ?_
 refine zP 4 11 15 31 ?_
 refine zP 5 12 15 63 ?_
 refine zP 6 13 15 127 ?_
 refine zP 8 15 15 383 ?_
 refine zP 10 17 15 1407 ?_
 refine zN 7 (some 14) 15 1535 (fun K hK => ?_)
 refine zG Try.func95 #[.pointer (some ⟨gy, 0, none⟩), .pointer (some ⟨gz, 0, none⟩)] ?_
 with_reducible refine (prod_n gy 0 gz 0 p.num q.num n m w.drew (HX.out.2.1.num.below hb0) (HX.out.2.2.num.below hb0) (by omega)).mono ?_
 rintro e w4 ⟨g4, hg4, rfl, hb4, hN4⟩
 refine ⟨_, rfl, ?_⟩
 have hb4' := below_drew' hb4
 have H4 := Aside0.mk (And.intro hb4' hN4)
 clear hb4 hN4 hb4'
 refine hK.out _ _ trivial (fun hHeld => ?_)
 clear hK K
 refine zM 14 ?_
 refine zN 9 (some 16) 15 2047 (fun K hK => ?_)
 refine zG Try.func96 #[.pointer (some ⟨gy, 0, none⟩)] ?_
 with_reducible refine (down_n gy _ n w4 (HX.out.2.1.den.below H4.out.1) (den0 p)).mono ?_
 rintro e w5 ⟨rfl, rfl⟩
 refine ⟨_, rfl, ?_⟩
 refine hK.out _ _ trivial (fun hHeld => ?_)
 clear hK K
 refine zM 16 ?_
 refine zN 11 (some 18) 15 4095 (fun K hK => ?_)
 refine zG Try.func96 #[.pointer (some ⟨gz, 0, none⟩)] ?_
 with_reducible refine (down_n gz _ m w4 (HX.out.2.2.den.below H4.out.1) (den0 q)).mono ?_
 rintro e w5 ⟨rfl, rfl⟩
 refine ⟨_, rfl, ?_⟩
 refine hK.out _ _ trivial (fun hHeld => ?_)
 clear hK K
 refine zM 18 ?_
 refine zN 12 (some 19) 15 8191 (fun K hK => ?_)
 refine zG Try.func95 #[.pointer (some ⟨gy, 2, none⟩), .pointer (some ⟨gz, 2, none⟩)] ?_
 with_reducible refine (prod_n gy 2 gz 2 p.den q.den n m w4 (HX.out.2.1.den.below H4.out.1) (HX.out.2.2.den.below H4.out.1) (by omega)).mono ?_
 rintro e w5 ⟨g5, hg5, rfl, hb5, hN5⟩
 refine ⟨_, rfl, ?_⟩
 have H5 := Aside0.mk (And.intro (H4.out.1.trans (hb5.mono H4.out.1.size)) (And.intro (H4.out.2.below hb5) hN5))
 clear hb5 hN5
 refine hK.out _ _ trivial (fun hHeld => ?_)
 clear hK K
 refine zM 19 ?_
 refine zN 13 (some 20) 15 16383 (fun K hK => ?_)
 refine zG Try.func94 #[.pointer (some ⟨gx, 0, none⟩), .pointer (some ⟨g4, 0, none⟩), .pointer (some ⟨g5, 0, none⟩)] ?_
 with_reducible refine (setQ_n gx g4 0 g5 0 (p.num * q.num) ((p.den : Int) * (q.den : Int)) (n + m) B w5 (HX.out.1.1.below H5.out.1) (HX.out.1.2.below H5.out.1) H5.out.2.1 H5.out.2.2 (Int.mul_ne_zero (den0 p) (den0 q)) (by omega) hB).mono ?_
 rintro e w6 ⟨rfl, hb6, hQ6⟩
 refine ⟨_, rfl, ?_⟩
 rw [qq_mul] at hQ6
 have H6 := Aside0.mk (And.intro hb6 hQ6)
 clear hb6 hQ6
 refine hK.out _ _ trivial (fun hHeld => ?_)
 clear hK K
 refine zM 20 ?_
 refine zP 14 6 15 32767 ?_
 refine done_ (by kernel_rfl) ?_
 go_wp2_with fail
 go_ret
 exact ⟨rfl, (H5.out.1.mono (by omega)).trans H6.out.1, H6.out.2⟩
set_option maxHeartbeats 4000000 in
set_option maxRecDepth 100000 in
theorem cmpQ_n (gy gz : Nat) (p q : Rat) (n m : Nat) (w : World) (hy : RQ w gy p n) (hz : RQ w gz q m) (hl : n + m ≤ 400) :
  Calls Try.prog 81 #[.pointer (some ⟨gy, 0, none⟩), .pointer (some ⟨gz, 0, none⟩)] w (ValP w (.int .i64 (cmpQ p q))) := by
 have HX := Aside0.mk (And.intro hy hz)
 have HV := Aside0.mk (cmp_q p q)
 generalize cmpQ p q = V at *
 clear hy hz
 go_enter Try.func81, Try.ntmps81
 go_wp2_with fail
 have hb0 : Below w.heap.size w w.drew := below_drew' (Below.refl _ _)
 refine start_ (n := 14) (S := fun w' => True) (ds := []) (bs 14 0) (by kernel_rfl) rfl rfl trivial (fun hHeld => ?_)
 refine zP 0 5 14 1 ?_
 refine zP 1 6 14 3 ?_
 refine zP 2 7 14 7 ?_
 refine zP 3 8 14 15 ?_
 refine zP 6 11 14 79 ?_
 refine zP 7 12 14 207 ?_
 refine zP 8 13 14 463 ?_
 refine zP 9 14 14 975 ?_
 refine zN 4 (some 9) 14 991 (fun K hK => ?_)
 refine zG Try.func96 #[.pointer (some ⟨gz, 0, none⟩)] ?_
 with_reducible refine (down_n gz _ m w.drew (HX.out.2.den.below hb0) (den0 q)).mono ?_
 rintro e w4 ⟨rfl, rfl⟩
 refine ⟨_, rfl, ?_⟩
 refine hK.out _ _ trivial (fun hHeld => ?_)
 clear hK K
 refine zM 9 ?_
 refine zN 5 (some 10) 14 1023 (fun K hK => ?_)
 refine zG Try.func95 #[.pointer (some ⟨gy, 0, none⟩), .pointer (some ⟨gz, 2, none⟩)] ?_
 with_reducible refine (prod_n gy 0 gz 2 p.num q.den n m w.drew (HX.out.1.num.below hb0) (HX.out.2.den.below hb0) (by omega)).mono ?_
 rintro e w4 ⟨g4, hg4, rfl, hb4, hN4⟩
 refine ⟨_, rfl, ?_⟩
 have hb4' := below_drew' hb4
 have H4 := Aside0.mk (And.intro hb4' hN4)
 clear hb4 hN4 hb4' hg4
 refine hK.out _ _ trivial (fun hHeld => ?_)
 clear hK K
 refine zM 10 ?_
 refine zN 10 (some 15) 14 2047 (fun K hK => ?_)
 refine zG Try.func96 #[.pointer (some ⟨gy, 0, none⟩)] ?_
 with_reducible refine (down_n gy _ n w4 (HX.out.1.den.below H4.out.1) (den0 p)).mono ?_
 rintro e w5 ⟨rfl, rfl⟩
 refine ⟨_, rfl, ?_⟩
 refine hK.out _ _ trivial (fun hHeld => ?_)
 clear hK K
 refine zM 15 ?_
 refine zN 11 (some 16) 14 4095 (fun K hK => ?_)
 refine zG Try.func95 #[.pointer (some ⟨gz, 0, none⟩), .pointer (some ⟨gy, 2, none⟩)] ?_
 with_reducible refine (prod_n gz 0 gy 2 q.num p.den m n w4 (HX.out.2.num.below H4.out.1) (HX.out.1.den.below H4.out.1) (by omega)).mono ?_
 rintro e w5 ⟨g5, hg5, rfl, hb5, hN5⟩
 refine ⟨_, rfl, ?_⟩
 have H5 := Aside0.mk (And.intro (H4.out.1.trans (hb5.mono H4.out.1.size)) (And.intro (H4.out.2.below hb5) hN5))
 clear hb5 hN5
 refine hK.out _ _ trivial (fun hHeld => ?_)
 clear hK K
 refine zM 16 ?_
 refine zN 12 (some 17) 14 8191 (fun K hK => ?_)
 refine zG Try.func91 #[.pointer (some ⟨g4, 0, none⟩), .pointer (some ⟨g5, 0, none⟩)] ?_
 with_reducible refine (cmp_n g4 0 g5 0 (p.num * (q.den : Int)) (q.num * (p.den : Int)) (n + m) (m + n) w5 H5.out.2.1 H5.out.2.2 (by omega)).mono ?_
 rintro e w6 ⟨rfl, hb6⟩
 refine ⟨_, rfl, ?_⟩
 rw [HV.out]
 have H6 := Aside0.mk (H5.out.1.trans (hb6.mono H5.out.1.size))
 clear hb6
 refine hK.out _ _ trivial (fun hHeld => ?_)
 clear hK K
 refine zM 17 ?_
 refine zP 13 4 14 16383 ?_
 refine done_ (by kernel_rfl) ?_
 go_wp2_with fail
 go_ret
 exact ⟨rfl, H6.out⟩
end Go.Proofs.Ytknklchmpohjfaa.Rf
namespace Go.Proofs.Ytknklchmpohjfaa.Gr
open Go.RowKit Go Go.Proofs.YtknklchmpohjfaaW.PrintWords Go.Proofs.YtknklchmpohjfaaW.PrintLast Go.Proofs.YtknklchmpohjfaaW.PrintMore Go.Proofs.Ytknklchmpohjfaa.Mn Go.Proofs.Ytknklchmpohjfaa.Nd Go.Proofs.Ytknklchmpohjfaa.Z Go.Proofs.Ytknklchmpohjfaa.Nc Go.Proofs.Ytknklchmpohjfaa.Nb Go.Proofs.Ytknklchmpohjfaa.Qa Go.Proofs.Ytknklchmpohjfaa.Rf Go.Proofs.Ytknklchmpohjfaa.E Go.Proofs.Ytknklchmpohjfaa.Tk Go.Proofs.Ytknklchmpohjfaa.Tw Go.Proofs.Ytknklchmpohjfaa.Gt
set_option linter.unusedVariables false
set_option linter.unusedSimpArgs false
theorem cq_lt {p q : Rat} (h : p < q) : cmpQ p q = -1 := if_pos h
theorem cq_ge {p q : Rat} (h : ¬ p < q) : ∃ c : Int, 0 ≤ c ∧ cmpQ p q = c := ⟨_, by unfold cmpQ; rw [if_neg h]; split <;> decide, rfl⟩
theorem cq_gt {p q : Rat} (h : q < p) : cmpQ p q = 1 := by unfold cmpQ; rw [if_neg (by grind), if_pos h]
theorem cq_le {p q : Rat} (h : ¬ q < p) : ∃ c : Int, c ≤ 0 ∧ cmpQ p q = c := ⟨_, by unfold cmpQ; rw [if_neg h]; split <;> decide, rfl⟩
set_option maxHeartbeats 1000000 in
theorem signQ_n (gy : Nat) (q : Rat) (n : Nat) (w : World) (hy : RQ w gy q n) : Calls Try.prog 79 #[.pointer (some ⟨gy, 0, none⟩)] w (ValP w (.int .i64 (cmpI q.num 0))) := by
 have HX := Aside0.mk hy
 clear hy
 go_enter Try.func79, Try.ntmps79
 go_wp2_with fail
 refine (signI_n gy 0 q.num n w HX.out.num).mono ?_
 rintro e w2 ⟨rfl, hb2⟩
 go_wp2_with fail
 go_ret
 exact ⟨rfl, hb2⟩
set_option maxHeartbeats 1000000 in
theorem rat_n (a b : Int) (w : World) (a0 : -9223372036854775808 ≤ a) (a1 : a ≤ 9223372036854775807) (b0 : -9223372036854775808 ≤ b) (b1 : b ≤ 9223372036854775807) (hb : b ≠ 0) : Calls Try.prog 71 #[.int .i64 a, .int .i64 b] w (QP w (qq a b) 2) := by
 have HX := Aside0.mk (newRat_n a b w a0 a1 b0 b1 hb)
 clear a0 a1 b0 b1 hb
 go_enter Try.func71, Try.ntmps71
 go_wp2_with fail
 refine HX.out.mono ?_
 rintro e w2 ⟨g2, hg2, rfl, hb2, hN2⟩
 have H2 := Aside0.mk (And.intro hg2 (And.intro hb2 hN2))
 clear hg2 hb2 hN2
 go_wp2_with fail
 go_ret
 exact ⟨g2, H2.out.1, rfl, H2.out.2.1, H2.out.2.2⟩
set_option maxHeartbeats 1000000 in
theorem ratOf_n (a b : Int) (w : World) (a0 : -9223372036854775808 ≤ a) (a1 : a ≤ 9223372036854775807) (b0 : -9223372036854775808 ≤ b) (b1 : b ≤ 9223372036854775807) (hb : b ≠ 0) : Calls Try.prog 59 #[.agg #[.int .i64 a, .int .i64 b]] w (QP w (qq a b) 2) := by
 have hu := Try.underlying77
 have HX := Aside0.mk (fun W => rat_n a b W a0 a1 b0 b1 hb)
 clear a0 a1 b0 b1 hb
 go_enter Try.func59, Try.ntmps59
 have hb1 := Aside0.mk (below_alloc (Below.refl w.heap.size w) (.cells #[.int .i64 a, .int .i64 b] 77 (0, 0)))
 go_wp2_with fail
 refine (HX.out _).mono ?_
 rintro e w2 ⟨g2, hg2, rfl, hb2, hN2⟩
 have H2 := Aside0.mk (show w.heap.size ≤ g2 ∧ Below w.heap.size w w2 ∧ RQ w2 g2 (qq a b) 2 from ⟨Nat.le_trans hb1.out.size hg2, hb1.out.trans (hb2.mono hb1.out.size), hN2⟩)
 clear hg2 hb2 hN2
 go_wp2_with fail
 go_ret
 exact ⟨g2, H2.out.1, rfl, H2.out.2.1, H2.out.2.2⟩
def shL (Q : Rat) (all : List Sm) : List Sm → Int → Int → Int
 | [], _, best => best
 | s :: l, i, best => if Q < qq s.f1 1 ∨ ¬ Q < qq (s.f1 + s.f2) 1 then shL Q all l (i + 1) best else if best < 0 ∨ (rd_T51 all best).f1 ≤ s.f1 then shL Q all l (i + 1) i else shL Q all l (i + 1) best
theorem sh_drop {Q : Rat} {all l : List Sm} {i best : Int} (h0 : 0 ≤ i) (h1 : i < (l.length : Int)) : shL Q all (l.drop i.toNat) i best = if Q < qq (rd_T51 l i).f1 1 ∨ ¬ Q < qq ((rd_T51 l i).f1 + (rd_T51 l i).f2) 1 then shL Q all (l.drop (i + 1).toNat) (i + 1) best else if best < 0 ∨ (rd_T51 all best).f1 ≤ (rd_T51 l i).f1 then shL Q all (l.drop (i + 1).toNat) (i + 1) i else shL Q all (l.drop (i + 1).toNat) (i + 1) best := by
 obtain ⟨hn, hg⟩ := rd_get l h0 h1
 have hi : (i + 1).toNat = i.toNat + 1 := by omega
 rw [hi, hg, List.drop_eq_getElem_cons hn, shL]
def rngS (s : Sm) : Prop := (-1099511627776 ≤ s.f1 ∧ s.f1 ≤ 1099511627776) ∧ 0 ≤ s.f2 ∧ s.f2 ≤ 1099511627776
theorem rd_in {l : List Sm} {i : Int} (h0 : 0 ≤ i) (h1 : i < (l.length : Int)) : rd_T51 l i ∈ l := by
 obtain ⟨hn, hg⟩ := rd_get l h0 h1
 rw [hg]
 exact List.getElem_mem hn
section
variable (id kind : Int) (codec : ByteArray) (scale : Int) (A4 : Option Addr) (c4 : Nat) (setup : List Int) (lang name : ByteArray) (pr : Int) (A8 : Option Addr) (c8 : Nat) (edits : List Ed') (A9 : Option Addr) (c9 : Nat) (refs : List Rf) (A10 : Option Addr) (c10 : Nat) (samples : List Sm)
set_option maxHeartbeats 16000000 in
set_option maxRecDepth 100000 in
theorem shownAt_n (gx : Nat) (q : Rat) (n : Nat) (w : World) (hsc : 1 ≤ scale ∧ scale ≤ 1000000) (hr : Kd.C k51 w A10 samples.length samples) (hx : RQ w gx q n) (hn : n ≤ 100) (hs : ∀ s ∈ samples, rngS s) (hl : samples.length ≤ 1000) :
  Calls Try.prog 70 #[.agg #[.int .i64 id, .int .i64 kind, .string codec, .int .i64 scale, .slice A4 setup.length c4, .string lang, .string name, .int .i64 pr, .slice A8 edits.length c8, .slice A9 refs.length c9, .slice A10 samples.length c10], .pointer (some ⟨gx, 0, none⟩)] w (ValP w (.int .i64 (shL (q * qq scale 1) samples samples 0 (-1)))) := by
 have hu := Try.underlying40
 have hu2 := Try.underlying51
 have HR := Aside0.mk (And.intro hr (And.intro hx (And.intro hn (And.intro hs hl))))
 have HS := Aside0.mk hsc
 obtain ⟨Q, hQ⟩ : ∃ Q, Q = q * qq scale 1 := ⟨_, rfl⟩
 rw [← hQ]
 have HQQ := Aside0.mk hQ
 have HV := Aside0.mk (show shL Q samples samples 0 (-1) = shL Q samples (samples.drop (0 : Int).toNat) 0 (-1) by simp)
 generalize shL Q samples samples 0 (-1) = V at HV ⊢
 clear hr hx hn hs hl hsc hQ
 go_enter Try.func70, Try.ntmps70
 go_upto_region 1 with (first | ((with_reducible refine gate_dst (N := 2) rfl ?_); refine zB 2 40 #[.int .i64 id, .int .i64 kind, .string codec, .int .i64 scale, .slice A4 setup.length c4, .string lang, .string name, .int .i64 pr, .slice A8 edits.length c8, .slice A9 refs.length c9, .slice A10 samples.length c10] ?_; intro gb hg W0 hbox hb; have HG := Aside0.mk hg; have HT0 := Aside0.mk hbox; have HB0 := Aside0.mk hb; clear hbox hb hg))
 have HT1 := Aside0.mk (blk_alloc HT0.out (.cells #[.bool false, .slice none 0 0, .bool false, .slice none 0 0] 131 (0, 0)))
 have HB1 := Aside0.mk (below_alloc HB0.out (.cells #[.bool false, .slice none 0 0, .bool false, .slice none 0 0] 131 (0, 0)))
 have HA1 := Aside0.mk (And.intro (room_rat0 W0) (room_rat2 W0))
 have q3 : (W0.alloc (.cells #[.bool false, .slice none 0 0, .bool false, .slice none 0 0] 131 (0, 0))).cell? ⟨gb, 3, none⟩ = some (.int .i64 scale) := (blk_cell HT1.out 3).trans rfl
 have HZ := Aside0.mk HB0.out.size
 have HG9 := Aside0.mk (blk_lt HT0.out)
 go_wp2_with fail
 clear q3 HT0 HB0
 generalize World.alloc W0 _ = W1 at *
 generalize W0.heap.size = g9 at *
 refine (rat_n scale 1 W1 (by have := HS.out; omega) (by have := HS.out; omega) (by decide) (by decide) (by decide)).mono ?_
 rintro e w2 ⟨g2, hg2, rfl, hb2, hN2⟩
 have HT2 := Aside0.mk (blk_below HT1.out hb2)
 have HB2 := Aside0.mk (HB1.out.trans (hb2.mono HB1.out.size))
 have HA2 := Aside0.mk (And.intro (HA1.out.1.below hb2) (And.intro (HA1.out.2.below hb2) hN2))
 have HX2 := Aside0.mk (HR.out.2.1.below (HB1.out.trans (hb2.mono HB1.out.size)))
 clear hb2 hN2 hg2 HT1 HB1 HA1
 go_wp2_with fail
 refine (mulQ_n g9 gx g2 q (qq scale 1) n 2 g9 w2 HA2.out.1 HA2.out.2.1 HX2.out HA2.out.2.2 (by have := HR.out.2.2.1; omega) (Nat.le_refl _)).mono ?_
 rintro e w3 ⟨rfl, hb3, hN3⟩
 have HQ3 := Aside0.mk (show RQ w3 g9 Q (n + 2) from HQQ.out ▸ hN3)
 have HT3 := Aside0.mk (show w3.heap[gb]? = some (.cells #[.int .i64 id, .int .i64 kind, .string codec, .int .i64 scale, .slice A4 setup.length c4, .string lang, .string name, .int .i64 pr, .slice A8 edits.length c8, .slice A9 refs.length c9, .slice A10 samples.length c10] 40 (0, 0)) from (hb3.block gb HG9.out).trans HT2.out)
 have HB3 := Aside0.mk (HB2.out.trans (hb3.mono HZ.out))
 clear hb3 hN3 HT2 HB2 HA2 HX2
 have qa : w3.cell? ⟨gb, 10, none⟩ = some (.slice A10 samples.length c10) := (blk_cell HT3.out 10).trans rfl
 go_wp2_with fail
 clear qa
 go_loopg [6, 18] samples.length (fun kq v6 v18 w' => ∃ best i : Int, v6 = .int .i64 best ∧ v18 = .int .i64 i ∧ Aside0 (0 ≤ i ∧ i + kq = samples.length ∧ (-1 ≤ best ∧ best < i) ∧ V = shL Q samples (samples.drop i.toNat) i best) ∧ Aside0 (w'.heap[gb]? = some (.cells #[.int .i64 id, .int .i64 kind, .string codec, .int .i64 scale, .slice A4 setup.length c4, .string lang, .string name, .int .i64 pr, .slice A8 edits.length c8, .slice A9 refs.length c9, .slice A10 samples.length c10] 40 (0, 0))) ∧ Aside0 (RQ w' g9 Q (n + 2)) ∧ Aside0 (Below w.heap.size w w'))
 case atStart => exact ⟨-1, 0, rfl, rfl, ⟨by simp, by simp, by decide, HV.out⟩, HT3, HQ3, HB3⟩
 case round =>
  clear HT3 HQ3 HB3 HV
  obtain ⟨best, i, rfl, rfl, hi, HT, HQ, HB⟩ := hrel
  by_cases hlt : i < (samples.length : Int)
  ·have hlb : decide (i < (samples.length : Int)) = true := decide_eq_true hlt
   have p0 := hi.out.1
   obtain ⟨ad, D4, f4, D5, f5, hA, x0, x1, x2, x3, x4, x5, _⟩ := at_T51 (Kd.C_below HR.out.1 HB.out) i p0 hlt
   have HD := Aside0.mk (sh_drop (Q := Q) (all := samples) (best := best) p0 hlt)
   have HX := Aside0.mk (HR.out.2.2.2.1 _ (rd_in p0 hlt))
   obtain ⟨k1, rfl⟩ : ∃ m, gk = m + 1 := ⟨gk - 1, by have := hi.out; omega⟩
   have HY := Aside0.mk (And.intro (show wrap64 (i + 1) = i + 1 by have := HR.out.2.2.2.2; exact w64 (by omega) (by omega)) (show 0 ≤ i + 1 ∧ i + 1 + (k1 : Int) = samples.length by have := hi.out; omega))
   have HI := Aside0.mk hi.out.2.2
   have HN := Aside0.mk (And.intro p0 hlt)
   subst hA
   generalize rd_T51 samples i = X at *
   have HW := Aside0.mk (show wrap64 (X.f1 + X.f2) = X.f1 + X.f2 by have := HX.out; unfold rngS at this; exact w64 (by omega) (by omega))
   replace p0 := eq_true p0
   replace hlt := eq_true hlt
   clear hi
   go_upto_region 6 with fail
   have HT1 := Aside0.mk (blk_alloc HT.out (.cells #[.int .i64 X.f0, .int .i64 X.f1, .int .i64 X.f2, .bool X.f3, .slice D4 X.f4.length f4, .slice D5 X.f5.length f5] 51 (0, 0)))
   have HE1 := Aside0.mk (blk_new wr (.cells #[.int .i64 X.f0, .int .i64 X.f1, .int .i64 X.f2, .bool X.f3, .slice D4 X.f4.length f4, .slice D5 X.f5.length f5] 51 (0, 0)))
   have HB1 := Aside0.mk (below_alloc HB.out (.cells #[.int .i64 X.f0, .int .i64 X.f1, .int .i64 X.f2, .bool X.f3, .slice D4 X.f4.length f4, .slice D5 X.f5.length f5] 51 (0, 0)))
   have HQ1 := Aside0.mk (HQ.out.below (below_alloc (Below.refl wr.heap.size wr) (.cells #[.int .i64 X.f0, .int .i64 X.f1, .int .i64 X.f2, .bool X.f3, .slice D4 X.f4.length f4, .slice D5 X.f5.length f5] 51 (0, 0))))
   generalize World.alloc wr _ = W1 at *
   generalize wr.heap.size = gE at *
   clear x0 x1 x2 x3 x4 x5 HT HB HQ
   have x1 : W1.cell? ⟨gE, 1, none⟩ = some (.int .i64 X.f1) := (blk_cell HE1.out 1).trans rfl
   go_wp2_with fail
   refine (rat_n X.f1 1 W1 (by have := HX.out; unfold rngS at this; omega) (by have := HX.out; unfold rngS at this; omega) (by decide) (by decide) (by decide)).mono ?_
   rintro e w2 ⟨g2, hg2, rfl, hb2, hN2⟩
   have HT2 := Aside0.mk (blk_below HT1.out hb2)
   have HE2 := Aside0.mk (blk_below HE1.out hb2)
   have HB2 := Aside0.mk (HB1.out.trans (hb2.mono HB1.out.size))
   have HQ2 := Aside0.mk (And.intro (HQ1.out.below hb2) hN2)
   clear hb2 hN2 hg2 x1 HT1 HE1 HB1 HQ1
   go_wp2_with fail
   refine (cmpQ_n g2 g9 (qq X.f1 1) Q 2 (n + 2) w2 HQ2.out.2 HQ2.out.1 (by have := HR.out.2.2.1; omega)).mono ?_
   rintro e w3 ⟨rfl, hb3⟩
   have HT3 := Aside0.mk (blk_below HT2.out hb3)
   have HE3 := Aside0.mk (blk_below HE2.out hb3)
   have HB3 := Aside0.mk (HB2.out.trans (hb3.mono HB2.out.size))
   have HQ3 := Aside0.mk (HQ2.out.1.below hb3)
   clear hb3 HT2 HE2 HB2 HQ2
   by_cases c1 : Q < qq X.f1 1
   ·rw [cq_gt c1]
    have HV2 := Aside0.mk (show V = shL Q samples (samples.drop (i + 1).toNat) (i + 1) best by rw [HI.out.2, HD.out, if_pos (.inl c1)])
    clear c1 HD
    go_wp2_with fail
    go_roundg k1
    case measure => omega
    case rel => exact ⟨best, i + 1, rfl, by rw [HY.out.1], ⟨HY.out.2.1, HY.out.2.2, by have := HI.out; omega, HV2.out⟩, HT3, HQ3, HB3⟩
   ·obtain ⟨c, hc0, ec⟩ := cq_le c1
    rw [ec]
    have hcd : decide (c > 0) = false := decide_eq_false (by omega)
    have HC1 := Aside0.mk c1
    have x1 : w3.cell? ⟨gE, 1, none⟩ = some (.int .i64 X.f1) := (blk_cell HE3.out 1).trans rfl
    have x2 : w3.cell? ⟨gE, 2, none⟩ = some (.int .i64 X.f2) := (blk_cell HE3.out 2).trans rfl
    clear c1 ec hc0
    go_wp2_with fail
    rw [HW.out]
    refine (rat_n (X.f1 + X.f2) 1 w3 (by have := HX.out; unfold rngS at this; omega) (by have := HX.out; unfold rngS at this; omega) (by decide) (by decide) (by decide)).mono ?_
    rintro e w4 ⟨g4, hg4, rfl, hb4, hN4⟩
    have HT4 := Aside0.mk (blk_below HT3.out hb4)
    have HE4 := Aside0.mk (blk_below HE3.out hb4)
    have HB4 := Aside0.mk (HB3.out.trans (hb4.mono HB3.out.size))
    have HQ4 := Aside0.mk (And.intro (HQ3.out.below hb4) hN4)
    clear hb4 hN4 hg4 x1 x2 HT3 HE3 HB3 HQ3
    go_wp2_with fail
    refine (cmpQ_n g9 g4 Q (qq (X.f1 + X.f2) 1) (n + 2) 2 w4 HQ4.out.1 HQ4.out.2 (by have := HR.out.2.2.1; omega)).mono ?_
    rintro e w5 ⟨rfl, hb5⟩
    have HT5 := Aside0.mk (blk_below HT4.out hb5)
    have HE5 := Aside0.mk (blk_below HE4.out hb5)
    have HB5 := Aside0.mk (HB4.out.trans (hb5.mono HB4.out.size))
    have HQ5 := Aside0.mk (HQ4.out.1.below hb5)
    clear hb5 HT4 HE4 HB4 HQ4
    by_cases c2 : Q < qq (X.f1 + X.f2) 1
    ·rw [cq_lt c2]
     have HV2 := Aside0.mk (show V = if best < 0 ∨ (rd_T51 samples best).f1 ≤ X.f1 then shL Q samples (samples.drop (i + 1).toNat) (i + 1) i else shL Q samples (samples.drop (i + 1).toNat) (i + 1) best by
      rw [HI.out.2, HD.out, if_neg]
      rintro (h | h)
      ·exact HC1.out h
      ·exact h c2)
     clear c2 HD HC1 hcd
     by_cases hb : best < 0
     ·have hbd : decide (best < 0) = true := decide_eq_true hb
      have HV3 := Aside0.mk (show V = shL Q samples (samples.drop (i + 1).toNat) (i + 1) i by rw [HV2.out, if_pos (.inl hb)])
      clear hb HV2
      go_wp2_with fail
      repeat (go_quiet (fail); try go_wp2)
      go_roundg k1
      case measure => omega
      case rel => exact ⟨i, i + 1, rfl, by rw [HY.out.1], ⟨HY.out.2.1, HY.out.2.2, by have := HN.out; omega, HV3.out⟩, HT5, ⟨HQ5.out.below (pw_below_drewN (Below.refl _ _) _)⟩, ⟨pw_below_drewN HB5.out _⟩⟩
     ·have hbd : decide (best < 0) = false := decide_eq_false hb
      obtain ⟨ad2, F4, j4, F5, j5, hA2, y0, y1, y2, y3, y4, y5, _⟩ := at_T51 (Kd.C_below HR.out.1 HB5.out) best (show 0 ≤ best by omega) (by have := HI.out; have := HN.out; omega)
      obtain rfl := Option.some.inj hA2
      have b0 := eq_true (show 0 ≤ best by omega)
      have b1 := eq_true (show best < (samples.length : Int) by have := HI.out; have := HN.out; omega)
      have x1 : w5.cell? ⟨gE, 1, none⟩ = some (.int .i64 X.f1) := (blk_cell HE5.out 1).trans rfl
      have qa : w5.cell? ⟨gb, 10, none⟩ = some (.slice (some ad) samples.length c10) := (blk_cell HT5.out 10).trans rfl
      generalize rd_T51 samples best = Y at *
      by_cases hp : Y.f1 ≤ X.f1
      ·have hpd : decide (X.f1 ≥ Y.f1) = true := decide_eq_true hp
       have HV3 := Aside0.mk (show V = shL Q samples (samples.drop (i + 1).toNat) (i + 1) i by rw [HV2.out, if_pos (.inr hp)])
       clear hp hb HV2
       go_wp2_with fail
       repeat (go_quiet (fail); try go_wp2)
       go_roundg k1
       case measure => omega
       case rel => exact ⟨i, i + 1, rfl, by rw [HY.out.1], ⟨HY.out.2.1, HY.out.2.2, by have := HN.out; omega, HV3.out⟩, HT5, ⟨HQ5.out.below (pw_below_drewN (Below.refl _ _) _)⟩, ⟨pw_below_drewN HB5.out _⟩⟩
      ·have hpd : decide (X.f1 ≥ Y.f1) = false := decide_eq_false hp
       have HV3 := Aside0.mk (show V = shL Q samples (samples.drop (i + 1).toNat) (i + 1) best by rw [HV2.out, if_neg (by rintro (h | h) <;> omega)])
       clear hp hb HV2
       go_wp2_with fail
       repeat (go_quiet (fail); try go_wp2)
       go_roundg k1
       case measure => omega
       case rel => exact ⟨best, i + 1, rfl, by rw [HY.out.1], ⟨HY.out.2.1, HY.out.2.2, by have := HI.out; omega, HV3.out⟩, HT5, ⟨HQ5.out.below (pw_below_drewN (Below.refl _ _) _)⟩, ⟨pw_below_drewN HB5.out _⟩⟩
    ·obtain ⟨c', hc0, ec⟩ := cq_ge c2
     rw [ec]
     have hcd2 : decide (c' ≥ 0) = true := decide_eq_true (by omega)
     have HV2 := Aside0.mk (show V = shL Q samples (samples.drop (i + 1).toNat) (i + 1) best by rw [HI.out.2, HD.out, if_pos (.inr c2)])
     clear c2 ec hc0 HD
     go_wp2_with fail
     go_roundg k1
     case measure => omega
     case rel => exact ⟨best, i + 1, rfl, by rw [HY.out.1], ⟨HY.out.2.1, HY.out.2.2, by have := HI.out; omega, HV2.out⟩, HT5, HQ5, HB5⟩
  ·have hlb : decide (i < (samples.length : Int)) = false := decide_eq_false hlt
   have HV2 := Aside0.mk (show V = best by rw [hi.out.2.2.2, List.drop_of_length_le (by have := hi.out; omega)]; rfl)
   replace hlt := eq_false hlt
   clear hi
   go_wp2_with fail
   go_ret
   exact ⟨ret_i HV2.out.symm, HB.out⟩
end
end Go.Proofs.Ytknklchmpohjfaa.Gr
namespace Go.Proofs.Ytknklchmpohjfaa.Gd
open Go.RowKit Go Go.Proofs.YtknklchmpohjfaaW.PrintWords Go.Proofs.YtknklchmpohjfaaW.PrintLast Go.Proofs.YtknklchmpohjfaaW.PrintMore Go.Proofs.Ytknklchmpohjfaa.Mn Go.Proofs.Ytknklchmpohjfaa.Nd Go.Proofs.Ytknklchmpohjfaa.Z Go.Proofs.Ytknklchmpohjfaa.E Go.Proofs.Ytknklchmpohjfaa.Tk Go.Proofs.Ytknklchmpohjfaa.Tw Go.Proofs.Ytknklchmpohjfaa.Gs
set_option linter.unusedVariables false
set_option linter.unusedSimpArgs false
def findT : List Tr' → Int → Int → Int
 | [], _, _ => -1
 | T :: l, id, i => if T.f0 = id then i else findT l id (i + 1)
theorem find_drop {ts : List Tr'} {i id : Int} (h0 : 0 ≤ i) (h1 : i < (ts.length : Int)) : findT (ts.drop i.toNat) id i = if (rd_T40 ts i).f0 = id then i else findT (ts.drop (i + 1).toNat) id (i + 1) := by
 have hn : i.toNat < ts.length := by omega
 have hi : (i + 1).toNat = i.toNat + 1 := by omega
 have hg : rd_T40 ts i = ts[i.toNat] := by
  unfold rd_T40
  rw [List.getD_eq_getElem?_getD, List.getElem?_eq_getElem hn]
  rfl
 rw [hi, hg, List.drop_eq_getElem_cons hn, findT]
set_option maxHeartbeats 4000000 in
set_option maxRecDepth 100000 in
theorem same_n (gi : Nat) (id : Int) (v0 : Int) (v1 v2 v3 v4 v5 v6 v7 v8 v9 va : Value) (w : World) (hi : w.heap[gi]? = some (.cells #[.int .i64 id] 3 (0, 0))) :
  Calls Try.prog 40 #[.agg #[.int .i64 v0, v1, v2, v3, v4, v5, v6, v7, v8, v9, va], .pointer (some ⟨gi, 0, none⟩)] w (ValP w (.bool (decide (v0 = id)))) := by
 have hu := Try.underlying40
 have HI := Aside0.mk hi
 obtain ⟨B, hB⟩ : ∃ B : Bool, B = decide (v0 = id) := ⟨_, rfl⟩
 rw [← hB]
 have hb : (v0 == id) = B := by
  rw [hB, Bool.eq_iff_iff]
  simp
 clear hi hB
 go_enter Try.func40, Try.ntmps40
 go_upto_region 1 with (first | ((with_reducible refine gate_dst (N := 2) rfl ?_); refine zB 2 40 #[.int .i64 v0, v1, v2, v3, v4, v5, v6, v7, v8, v9, va] ?_; intro gb hg W0 hbox hb0; have HG := Aside0.mk hg; have HT := Aside0.mk hbox; have HB := Aside0.mk hb0; clear hbox hb0 hg))
 have q0 : W0.cell? ⟨gb, 0, none⟩ = some (.int .i64 v0) := (blk_cell HT.out 0).trans rfl
 have q1 : W0.cell? ⟨gi, 0, none⟩ = some (.int .i64 id) := (blk_cell (blk_below HI.out HB.out) 0).trans rfl
 go_wp2_with fail
 go_ret
 exact ⟨rfl, HB.out⟩
set_option maxHeartbeats 8000000 in
set_option maxRecDepth 100000 in
theorem index_n (gi : Nat) (id : Int) (ts : List Tr') (A2 : Option Addr) (c2 : Nat) (w : World) (hr : Kd.C k40 w A2 ts.length ts) (hi : w.heap[gi]? = some (.cells #[.int .i64 id] 3 (0, 0))) :
  Calls Try.prog 39 #[.slice A2 ts.length c2, .func (.func 40) #[] #[.pointer (some ⟨gi, 0, none⟩)]] w (ValP w (.int .i64 (findT ts id 0))) := by
 have hu := Try.underlying40
 have hE := enters_of Try.func40 (by kernel_rfl) rfl
 have HR := Aside0.mk hr
 have HL := Aside0.mk hr.2.1
 have HG := Aside0.mk hi
 have HV := Aside0.mk (show findT ts id 0 = findT (ts.drop (0 : Int).toNat) id 0 by simp)
 generalize findT ts id 0 = V at HV ⊢
 clear hr hi
 go_enter Try.func39, Try.ntmps39
 go_wp2_with fail
 go_loopg [8] ts.length (fun kq v8 w' => ∃ i : Int, v8 = .int .i64 i ∧ Aside0 (0 ≤ i ∧ i + kq = ts.length ∧ V = findT (ts.drop i.toNat) id i) ∧ Aside0 (Below w.heap.size w w'))
 case atStart => exact ⟨0, rfl, ⟨by simp, by simp, HV.out⟩, ⟨Below.refl _ _⟩⟩
 case round =>
  clear HV
  obtain ⟨i, rfl, hi, HB⟩ := hrel
  by_cases hlt : i < (ts.length : Int)
  ·have hlb : decide (i < (ts.length : Int)) = true := decide_eq_true hlt
   have p0 := hi.out.1
   obtain ⟨ad, A4, c4, A8, c8, A9, c9, A10, c10, hA, r0, r1, r2, r3, r4, r5, r6, r7, r8, r9, r10, _⟩ := at_T40 (Kd.C_below HR.out HB.out) i p0 hlt
   have HD := Aside0.mk (find_drop (id := id) p0 hlt)
   obtain ⟨k1, rfl⟩ : ∃ m, gk = m + 1 := ⟨gk - 1, by have := hi.out; omega⟩
   have HY := Aside0.mk (And.intro (show wrap64 (i + 1) = i + 1 by have := HL.out; exact w64 (by omega) (by omega)) (show 0 ≤ i + 1 ∧ i + 1 + (k1 : Int) = ts.length by have := hi.out; omega))
   have HI := Aside0.mk hi.out.2.2
   subst hA
   generalize rd_T40 ts i = T at *
   replace p0 := eq_true p0
   replace hlt := eq_true hlt
   clear hi
   go_wp2_with fail
   refine (same_n gi id T.f0 _ _ _ _ _ _ _ _ _ _ wr (blk_below HG.out HB.out)).mono ?_
   rintro e w2 ⟨rfl, hb2⟩
   have HB2 := Aside0.mk (HB.out.trans (hb2.mono HB.out.size))
   clear hb2 HB r0 r1 r2 r3 r4 r5 r6 r7 r8 r9 r10
   by_cases he : T.f0 = id
   ·have hE2 : decide (T.f0 = id) = true := decide_eq_true he
    have HV2 := Aside0.mk (show V = i by rw [HI.out, HD.out, if_pos he])
    rw [hE2]
    clear he
    go_wp2_with fail
    go_ret
    exact ⟨ret_i HV2.out.symm, HB2.out⟩
   ·have hE2 : decide (T.f0 = id) = false := decide_eq_false he
    have HV2 := Aside0.mk (show V = findT (ts.drop (i + 1).toNat) id (i + 1) by rw [HI.out, HD.out, if_neg he])
    rw [hE2]
    clear he
    go_wp2_with fail
    go_roundg k1
    case measure => omega
    case rel => exact ⟨i + 1, by rw [HY.out.1], ⟨HY.out.2.1, HY.out.2.2, HV2.out⟩, HB2⟩
  ·have hlb : decide (i < (ts.length : Int)) = false := decide_eq_false hlt
   have HV2 := Aside0.mk (show V = -1 by rw [hi.out.2.2, List.drop_of_length_le (by have := hi.out; omega)]; rfl)
   replace hlt := eq_false hlt
   clear hi
   go_wp2_with fail
   go_ret
   exact ⟨ret_i HV2.out.symm, HB.out⟩
set_option maxHeartbeats 4000000 in
set_option maxRecDepth 100000 in
theorem find_n (scale : Int) (title : ByteArray) (ts : List Tr') (A2 : Option Addr) (c2 : Nat) (m3 m4 m5 : Value) (id : Int) (w : World) (hr : Kd.C k40 w A2 ts.length ts) :
  Calls Try.prog 11 #[.agg #[.int .i64 scale, .string title, .slice A2 ts.length c2, m3, m4, m5], .int .i64 id] w (ValP w (.int .i64 (findT ts id 0))) := by
 have hu := Try.underlying27
 have hu3 := Try.underlying3
 have hE := enters_of Try.func39 (by kernel_rfl) rfl
 have HR := Aside0.mk hr
 clear hr
 go_enter Try.func11, Try.ntmps11
 go_upto_region 1 with (first | ((with_reducible refine gate_dst (N := 2) rfl ?_); refine zB 2 27 #[.int .i64 scale, .string title, .slice A2 ts.length c2, m3, m4, m5] ?_; intro gb hg W0 hbox hb0; have HG := Aside0.mk hg; have HT := Aside0.mk hbox; have HB := Aside0.mk hb0; clear hbox hb0 hg) | ((with_reducible refine gate_dst (N := 3) rfl ?_); refine zB 3 3 #[.int .i64 id] ?_; intro gi hgi W1 hbox hb0; have HT1 := Aside0.mk (blk_below HT.out hb0); have HI := Aside0.mk hbox; have HB1 := Aside0.mk (HB.out.trans (hb0.mono HB.out.size)); clear hbox hb0 hgi))
 have q2 : W1.cell? ⟨gb, 2, none⟩ = some (.slice A2 ts.length c2) := (blk_cell HT1.out 2).trans rfl
 go_wp2_with fail
 refine (index_n gi id ts A2 c2 W1 (Kd.C_below HR.out HB1.out) HI.out).mono ?_
 rintro e w2 ⟨rfl, hb2⟩
 have HB2 := Aside0.mk (HB1.out.trans (hb2.mono HB1.out.size))
 clear hb2 q2
 go_wp2_with fail
 go_ret
 exact ⟨rfl, HB2.out⟩
end Go.Proofs.Ytknklchmpohjfaa.Gd

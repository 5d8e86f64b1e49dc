/-
  Limbs divided by two limbs and more: the walk of num.divMag, and what it comes to. Limbs divided by two limbs and more: the walk of num.divMag. What the calls of package num do to numbers in memory: QuoRem, Sub, Sign, Int64. Fractions in lowest terms, as whole numbers. Fractions of package num: SetFrac brings two whole numbers to lowest terms. Fractions of package num as rational numbers: NewRat, Mul, Add, Sub, Cmp, IsInt. The sample at a media time: exact numbers held against samples. model.Find: where a track with an Id is. model.Check: the first error of a movie, over what is said of its chapters, tags and bytes. The small track of the Model laws' awake. The sample at a movie time in a track without edits; the track that is asked for, where it is there. A map from things (a kind with an Id) to bools.
-/
import Derived.Test.YtknklchmpohjfaaQRModelNeedse
import Derived.Outline
import Derived.Test.YtknklchmpohjfaaQRModelNeedsd
import Derived.Shelf.Abstract
import Derived.DeepKeys4
import Derived.ChangeKeys
namespace Go.Proofs.Ytknklchmpohjfaa.Db
open Go.RowKit Go Go.Proofs.YtknklchmpohjfaaW.PrintWords Go.Proofs.YtknklchmpohjfaaW.PrintLast Go.Proofs.YtknklchmpohjfaaW.PrintMore Go.Proofs.Ytknklchmpohjfaa.Ml Go.Proofs.Ytknklchmpohjfaa.Mn Go.Proofs.Ytknklchmpohjfaa.Nd Go.Proofs.Ytknklchmpohjfaa.Z Go.Proofs.Ytknklchmpohjfaa.P Go.Proofs.Ytknklchmpohjfaa.Nc Go.Proofs.Ytknklchmpohjfaa.Nb Go.Proofs.Ytknklchmpohjfaa.Ns Go.Proofs.Ytknklchmpohjfaa.Nk Go.Proofs.Ytknklchmpohjfaa.Ng Go.Proofs.Ytknklchmpohjfaa.Lz Go.Proofs.Ytknklchmpohjfaa.Da
set_option linter.unusedVariables false
set_option linter.unusedSimpArgs false
theorem lz_num (x : Int) (h0 : 0 < x) (h1 : x < 4294967296) : ∃ b : Nat, b ≤ 31 ∧ (32 - ((Lib.bitLen x.toNat : Nat) : Int)) = (b : Int) ∧ 2147483648 ≤ x * 2 ^ b ∧ (x + 1) * 2 ^ b ≤ 4294967296 := by
 have hx : ((x.toNat : Nat) : Int) = x := by omega
 obtain ⟨l1, l2, l3⟩ := Lib.bitLenAux_bounds 64 x.toNat (by omega) (by omega)
 have e : Lib.bitLen x.toNat = Lib.bitLenAux 64 x.toNat := rfl
 rw [e]
 generalize Lib.bitLenAux 64 x.toNat = k at *
 generalize x.toNat = n at *
 subst hx
 have hk : k ≤ 32 := by
  refine Nat.le_of_not_lt fun h => ?_
  have : 2 ^ 32 ≤ 2 ^ (k - 1) := Nat.pow_le_pow_right (by decide) (by omega)
  omega
 refine ⟨32 - k, by omega, by omega, ?_, ?_⟩
 ·have h3 : 2 ^ (k - 1) * 2 ^ (32 - k) ≤ n * 2 ^ (32 - k) := Nat.mul_le_mul_right _ l2
  rw [← Nat.pow_add, show k - 1 + (32 - k) = 31 by omega] at h3
  have h4 : ((n * 2 ^ (32 - k) : Nat) : Int) = (n : Int) * 2 ^ (32 - k) := by simp
  rw [← h4]
  omega
 ·have h3 : (n + 1) * 2 ^ (32 - k) ≤ 2 ^ k * 2 ^ (32 - k) := Nat.mul_le_mul_right _ l3
  rw [← Nat.pow_add, show k + (32 - k) = 32 by omega] at h3
  have h4 : (((n + 1) * 2 ^ (32 - k) : Nat) : Int) = ((n : Int) + 1) * 2 ^ (32 - k) := by simp
  rw [← h4]
  omega
theorem norm_v (lb vl : List Int) (n : Nat) (p : Int) (hp : 0 < p) (hb : Cn 4294967296 lb) (hl : lb.length = n + 2) (dV : Dg 4294967296 vl) (lV : vl.length = n + 3) (vV : dv 4294967296 vl = dv 4294967296 lb * p) (h1 : 2147483648 ≤ lb.getD (n + 1) 0 * p) (h2 : (lb.getD (n + 1) 0 + 1) * p ≤ 4294967296) :
  dv 4294967296 (vl.take (n + 2)) = dv 4294967296 lb * p ∧ 2147483648 ≤ (vl.take (n + 2)).getD (n + 1) 0 := by
 have e1 := dv_take_succ 4294967296 lb (n + 1) (by omega)
 rw [List.take_of_length_le (by omega)] at e1
 have a0 := dv_nonneg (by decide) (hb.dg.take (n + 1))
 have a1 := dv_lt (by decide) (hb.dg.take (n + 1))
 rw [List.length_take, Nat.min_eq_left (by omega)] at a1
 have hM := pow_pos (B := 4294967296) (by decide) (n + 1)
 have e2 := dv_take_succ 4294967296 vl (n + 2) (by omega)
 rw [List.take_of_length_le (by omega), pw_succ] at e2
 have e3 := dv_take_succ 4294967296 vl (n + 1) (by omega)
 have b0 := dv_nonneg (by decide) (dV.take (n + 2))
 have b1 := dv_nonneg (by decide) (dV.take (n + 1))
 have b2 := dv_lt (by decide) (dV.take (n + 1))
 rw [List.length_take, Nat.min_eq_left (by omega)] at b2
 have c0 := dV.getD (by decide) (n + 2)
 generalize dv 4294967296 (lb.take (n + 1)) = ll at *
 generalize lb.getD (n + 1) 0 = t at *
 generalize pw 4294967296 (n + 1) = M at *
 have u1 : dv 4294967296 lb * p < M * 4294967296 := by
  have h3 : dv 4294967296 lb + 1 ≤ (t + 1) * M := by rw [e1, Int.add_mul]; omega
  have h4 : (dv 4294967296 lb + 1) * p ≤ (t + 1) * M * p := Int.mul_le_mul_of_nonneg_right h3 (by omega)
  have h5 : (t + 1) * M * p = (t + 1) * p * M := by grind
  have h6 : (t + 1) * p * M ≤ 4294967296 * M := Int.mul_le_mul_of_nonneg_right h2 (by omega)
  rw [Int.add_mul] at h4
  omega
 have u2 : 2147483648 * M ≤ dv 4294967296 lb * p := by
  have h3 : t * p * M ≤ dv 4294967296 lb * p := by
   have h4 : t * M * p ≤ dv 4294967296 lb * p := Int.mul_le_mul_of_nonneg_right (by omega) (by omega)
   have h5 : t * p * M = t * M * p := by grind
   omega
  have h4 : 2147483648 * M ≤ t * p * M := Int.mul_le_mul_of_nonneg_right h1 (by omega)
  omega
 have z : vl.getD (n + 2) 0 = 0 := by
  refine Int.le_antisymm (Int.le_of_not_gt fun h => ?_) c0.1
  have h3 : 1 * (M * 4294967296) ≤ vl.getD (n + 2) 0 * (M * 4294967296) := Int.mul_le_mul_of_nonneg_right (by omega) (by omega)
  omega
 have hv : dv 4294967296 (vl.take (n + 2)) = dv 4294967296 lb * p := by rw [z] at e2; omega
 refine ⟨hv, ?_⟩
 have e4 : (vl.take (n + 2)).getD (n + 1) 0 = vl.getD (n + 1) 0 := by
  simp [List.getD_eq_getElem?_getD, List.getElem?_take]
 rw [e4]
 refine Int.le_of_not_gt fun h => ?_
 rw [hv] at e3
 have h3 : (vl.getD (n + 1) 0 + 1) * M ≤ 2147483648 * M := Int.mul_le_mul_of_nonneg_right (by omega) (by omega)
 rw [Int.add_mul] at h3
 omega
structure LdI (ul V : List Int) (n m : Nat) (U quo : List Int) : Prop where
 dU : Dg 4294967296 U
 lU : U.length = ul.length
 dq : Dg 4294967296 quo
 lq : quo.length = ul.length - n - 2
 top : dv 4294967296 (U.drop m) < dv 4294967296 V
 val : dv 4294967296 ul = dv 4294967296 U + dv 4294967296 (quo.drop m) * dv 4294967296 V * pw 4294967296 m
theorem LdI.start (ul V : List Int) (n : Nat) (dU : Dg 4294967296 ul) (hl : n + 3 ≤ ul.length) (hV : V.length = n + 2) (dV : Dg 4294967296 V) (htop : ul.getD (ul.length - 1) 0 < V.getD (n + 1) 0) :
  LdI ul V n (ul.length - n - 2) ul (List.replicate (ul.length - n - 2) 0) := by
 refine ⟨dU, rfl, Dg.replicate (by decide) _, by simp, ?_, by simp [List.drop_of_length_le, dv]⟩
 have e1 := dv_take_succ 4294967296 (ul.drop (ul.length - n - 2)) (n + 1) (by simp; omega)
 rw [List.take_of_length_le (by simp; omega)] at e1
 have e2 : (ul.drop (ul.length - n - 2)).getD (n + 1) 0 = ul.getD (ul.length - 1) 0 := by
  simp only [List.getD_eq_getElem?_getD, List.getElem?_drop]
  congr 2
  omega
 have e3 := dv_take_succ 4294967296 V (n + 1) (by omega)
 rw [List.take_of_length_le (by omega)] at e3
 have a1 := dv_lt (by decide) ((dU.drop (ul.length - n - 2)).take (n + 1))
 rw [List.length_take, Nat.min_eq_left (by simp; omega)] at a1
 have a2 := dv_nonneg (by decide) (dV.take (n + 1))
 have hM := pow_pos (B := 4294967296) (by decide) (n + 1)
 rw [e1, e2, e3]
 have h3 : (ul.getD (ul.length - 1) 0 + 1) * pw 4294967296 (n + 1) ≤ V.getD (n + 1) 0 * pw 4294967296 (n + 1) := Int.mul_le_mul_of_nonneg_right (by omega) (by omega)
 rw [Int.add_mul] at h3
 omega
theorem LdI.win {ul V U quo : List Int} {n m : Nat} (h : LdI ul V n (m + 1) U quo) (hV : V.length = n + 2) (dV : Dg 4294967296 V) (hm : m + 1 ≤ ul.length - n - 2) :
  U = U.take m ++ ((U.drop m).take (n + 3) ++ U.drop (m + (n + 3))) ∧ (U.take m).length = m ∧ ((U.drop m).take (n + 3)).length = n + 3 ∧ Dg 4294967296 ((U.drop m).take (n + 3)) ∧ dv 4294967296 (U.drop (m + (n + 3))) = 0 ∧ dv 4294967296 ((U.drop m).take (n + 3)) < dv 4294967296 V * 4294967296 := by
 have hlU := h.lU
 have e0 : (U.drop m).drop (n + 3) = U.drop (m + (n + 3)) := by rw [List.drop_drop]
 have z : dv 4294967296 (U.drop (m + (n + 3))) = 0 := by
  have h1 := dv_split 4294967296 (U.drop (m + 1)) (n + 2) (by simp; omega)
  rw [List.drop_drop, show m + 1 + (n + 2) = m + (n + 3) by omega] at h1
  have h2 := h.top
  have h3 := dv_lt (by decide) dV
  rw [hV] at h3
  have h4 := dv_nonneg (by decide) ((h.dU.drop (m + 1)).take (n + 2))
  have h5 := dv_nonneg (by decide) (h.dU.drop (m + (n + 3)))
  have hM := pow_pos (B := 4294967296) (by decide) (n + 2)
  refine Int.le_antisymm (Int.le_of_not_gt fun h6 => ?_) h5
  have h7 : pw 4294967296 (n + 2) * 1 ≤ pw 4294967296 (n + 2) * dv 4294967296 (U.drop (m + (n + 3))) := Int.mul_le_mul_of_nonneg_left (by omega) (by omega)
  omega
 refine ⟨?_, by simp; omega, by simp; omega, (h.dU.drop m).take _, z, ?_⟩
 ·rw [← e0, List.take_append_drop, List.take_append_drop]
 ·have h1 := dv_split 4294967296 (U.drop m) (n + 3) (by simp; omega)
  rw [e0, z] at h1
  have h2 := dv_drop 4294967296 U m (by omega)
  have h3 := h.dU.getD (by decide) m
  have h4 := h.top
  omega
theorem LdI.step {ul V U quo Y' : List Int} {n m : Nat} {q : Int} (h : LdI ul V n (m + 1) U quo) (hV : V.length = n + 2) (dV : Dg 4294967296 V) (hm : m + 1 ≤ ul.length - n - 2) (lY : Y'.length = n + 3) (dY : Dg 4294967296 Y') (q0 : 0 ≤ q) (q1 : q < 4294967296)
  (hq : dv 4294967296 ((U.drop m).take (n + 3)) = q * dv 4294967296 V + dv 4294967296 Y') (hlt : dv 4294967296 Y' < dv 4294967296 V) :
  LdI ul V n m (U.take m ++ (Y' ++ U.drop (m + (n + 3)))) (quo.set m q) := by
 obtain ⟨w1, w2, w3, w4, w5, w6⟩ := h.win hV dV hm
 have hlU := h.lU
 have e1 : (U.take m ++ (Y' ++ U.drop (m + (n + 3)))).drop m = Y' ++ U.drop (m + (n + 3)) := by
  rw [List.drop_append_of_le_length (by omega), List.drop_of_length_le (by omega), List.nil_append]
 have e2 : dv 4294967296 (Y' ++ U.drop (m + (n + 3))) = dv 4294967296 Y' := by rw [dv_append, w5]; omega
 refine ⟨(h.dU.take m).append (dY.append (h.dU.drop _)), by simp; omega, h.dq.set _ q0 q1, by simpa using h.lq, by rw [e1, e2]; exact hlt, ?_⟩
 have e3 := h.val
 rw [dv_append, e2, w2, dv_drop _ (quo.set m q) m (by simp; have := h.lq; omega), drop_set, getD_set_self (by have := h.lq; omega)]
 have e4 : dv 4294967296 U = dv 4294967296 (U.take m) + pw 4294967296 m * (q * dv 4294967296 V + dv 4294967296 Y') := by
  rw [← hq]
  have := dv_split 4294967296 U m (by omega)
  have h2 := dv_split 4294967296 (U.drop m) (n + 3) (by simp; omega)
  rw [List.drop_drop, w5] at h2
  rw [this, h2]
  grind
 rw [e3, e4, pw_succ]
 grind
theorem dn_num {x y p pp : Int} (hp : 0 < p) (hpp : p * pp = 4294967296) (x0 : 0 ≤ x) (x1 : x < 4294967296) (y0 : 0 ≤ y) : p * ((y * 4294967296 + x) / p % 4294967296) = x - x % p + (y % p) * 4294967296 := by
 have ex := Int.ediv_mul_add_emod x p
 have ey := Int.ediv_mul_add_emod y p
 have rx0 := Int.emod_nonneg x (show p ≠ 0 by omega)
 have rx1 := Int.emod_lt_of_pos x hp
 have ry0 := Int.emod_nonneg y (show p ≠ 0 by omega)
 have ry1 := Int.emod_lt_of_pos y hp
 have qx0 : 0 ≤ x / p := Int.ediv_nonneg x0 (by omega)
 generalize x / p = xq at *
 generalize y / p = yq at *
 generalize x % p = xr at *
 generalize y % p = yr at *
 have hpp0 : 0 < pp := by
  refine Int.lt_of_not_ge fun h => ?_
  have : p * pp ≤ p * 0 := Int.mul_le_mul_of_nonneg_left h (by omega)
  omega
 have qx1 : xq < pp := by
  refine lt_of_mul (c := p) ?_ hp
  rw [Int.mul_comm pp p]
  omega
 have e1 : (y * 4294967296 + x) / p = y * pp + xq := by
  rw [show y * 4294967296 + x = xr + p * (y * pp + xq) by rw [← ex, ← hpp]; grind, Int.add_mul_ediv_left _ _ (by omega), Int.ediv_eq_zero_of_lt rx0 rx1]
  omega
 have b0 : 0 ≤ yr * pp + xq := by
  have := Int.mul_nonneg ry0 (Int.le_of_lt hpp0)
  omega
 have b1 : yr * pp + xq < 4294967296 := by
  have : (yr + 1) * pp ≤ p * pp := Int.mul_le_mul_of_nonneg_right (by omega) (by omega)
  rw [Int.add_mul] at this
  omega
 have e2 : y * pp + xq = yr * pp + xq + 4294967296 * yq := by rw [← ey, ← hpp]; grind
 rw [e1, e2, Int.add_mul_emod_self_left, Int.emod_eq_of_lt b0 b1, ← hpp, ← ex]
 grind
structure DnI (U : List Int) (p : Int) (n i : Nat) (rem : List Int) : Prop where
 dg : Dg 4294967296 rem
 len : rem.length = n + 2
 val : dv 4294967296 (rem.take i) * p + U.getD 0 0 % p = dv 4294967296 (U.take i) + U.getD i 0 % p * pw 4294967296 i
theorem DnI.start (U : List Int) (p : Int) (n : Nat) : DnI U p n 0 (List.replicate (n + 2) 0) :=
 ⟨Dg.replicate (by decide) _, by simp, by simp [dv, pw]⟩
theorem DnI.step {U rem : List Int} {p pp : Int} {n i : Nat} (h : DnI U p n i rem) (dU : Dg 4294967296 U) (hp : 0 < p) (hpp : p * pp = 4294967296) (hi : i < n + 2) :
  DnI U p n (i + 1) (rem.set i ((U.getD (i + 1) 0 * 4294967296 + U.getD i 0) / p % 4294967296)) := by
 have a0 := dU.getD (by decide) i
 have a1 := dU.getD (by decide) (i + 1)
 have e := dn_num hp hpp a0.1 a0.2 a1.1
 refine ⟨h.dg.set _ (Int.emod_nonneg _ (by decide)) (Int.emod_lt_of_pos _ (by decide)), by simpa using h.len, ?_⟩
 have hv := h.val
 rw [dv_take_set (by have := h.len; omega), dv_take_succ', pw_succ]
 generalize (U.getD (i + 1) 0 * 4294967296 + U.getD i 0) / p % 4294967296 = s at *
 have h2 := Int.ediv_mul_add_emod (U.getD i 0) p
 generalize U.getD i 0 % p = ui at *
 generalize U.getD (i + 1) 0 % p = uj at *
 generalize U.getD i 0 = u at *
 generalize U.getD 0 0 % p = u0 at *
 grind
end Go.Proofs.Ytknklchmpohjfaa.Db
namespace Go.Proofs.Ytknklchmpohjfaa.Dc
open Go.RowKit Go Go.Proofs.YtknklchmpohjfaaW.PrintWords Go.Proofs.YtknklchmpohjfaaW.PrintLast Go.Proofs.YtknklchmpohjfaaW.PrintMore Go.Proofs.Ytknklchmpohjfaa.Ml Go.Proofs.Ytknklchmpohjfaa.Mn Go.Proofs.Ytknklchmpohjfaa.Nd Go.Proofs.Ytknklchmpohjfaa.Z Go.Proofs.Ytknklchmpohjfaa.P Go.Proofs.Ytknklchmpohjfaa.Nc Go.Proofs.Ytknklchmpohjfaa.Nb Go.Proofs.Ytknklchmpohjfaa.Ns Go.Proofs.Ytknklchmpohjfaa.Nk Go.Proofs.Ytknklchmpohjfaa.Ng Go.Proofs.Ytknklchmpohjfaa.Lz Go.Proofs.Ytknklchmpohjfaa.Da Go.Proofs.Ytknklchmpohjfaa.Db
set_option linter.unusedVariables false
set_option linter.unusedSimpArgs false
structure Tri (w W : World) (gu N cu : Nat) (U : List Int) (gv n cv : Nat) (V : List Int) (go m co : Nat) (Q : List Int) : Prop where
 u : Kd.R (Kd.int .u32) 147 W 0 (fun _ => True) (.slice (some ⟨gu, 0, none⟩) N cu) U
 v : Kd.R (Kd.int .u32) 147 W 0 (fun _ => True) (.slice (some ⟨gv, 0, none⟩) n cv) V
 q : Kd.R (Kd.int .u32) 147 W 0 (fun _ => True) (.slice (some ⟨go, 0, none⟩) m co) Q
 b : Below w.heap.size w W
theorem far_put {e g n c g2 i : Nat} {xs : List Int} {W : World} {x : Value} (h : Kd.R (Kd.int .u32) e W 0 (fun _ => True) (.slice (some ⟨g, 0, none⟩) n c) xs) (hne : g ≠ g2) : Kd.R (Kd.int .u32) e (W.setCell ⟨g2, i, none⟩ x) 0 (fun _ => True) (.slice (some ⟨g, 0, none⟩) n c) xs := by
 refine Kd.R_mono (ok := fun k => k = g) (Kd.R_far (p := ⟨g2, i, none⟩) (Kd.R_mono (Kd.R_tight rfl h) (fun k hk => ?_)) (fun k hk => ?_) _) (fun _ _ => trivial)
 ·simpa [Value.ownBlock] using hk
 ·rw [hk]; exact hne
theorem Tri.put {w W : World} {gu N cu gv n cv go m co : Nat} {U V Q : List Int} (h : Tri w W gu N cu U gv n cv V go m co Q) (h1 : gu ≠ go) (h2 : gv ≠ go) (h3 : w.heap.size ≤ go) (i : Nat) (x : Int) : Tri w (W.setCell ⟨go, i, none⟩ (.int .u32 x)) gu N cu U gv n cv V go m co (Q.set i x) :=
 ⟨far_put h.u h1, far_put h.v h2, own_put h.q i x, h.b.setCell h3 _⟩
theorem Tri.drewN {w W : World} {gu N cu gv n cv go m co : Nat} {U V Q : List Int} (h : Tri w W gu N cu U gv n cv V go m co Q) (k : Nat) : Tri w (W.drewN k) gu N cu U gv n cv V go m co Q :=
 ⟨Kd.R_drewN h.u k, Kd.R_drewN h.v k, Kd.R_drewN h.q k, pw_below_drewN h.b k⟩
theorem Tri.two {w W : World} {gu N cu gv n cv go m co : Nat} {U V Q P Z Y : List Int} (h : Tri w W gu N cu U gv n cv V go m co Q) (e : U = P ++ (Y ++ Z)) : Two W W gu gv N cu n cv P Z Y V :=
 ⟨by rw [← e]; exact h.u, h.v, grown_of_below (Below.refl _ _) _⟩
theorem Tri.dug {w W W2 : World} {gu N cu gv n cv go m co : Nat} {U V Q P Z Y : List Int} (h : Tri w W gu N cu U gv n cv V go m co Q) (h2 : Two W W2 gu gv N cu n cv P Z Y V) (h1 : go ≠ gu) (h3 : w.heap.size ≤ gu) : Tri w W2 gu N cu (P ++ (Y ++ Z)) gv n cv V go m co Q :=
 ⟨h2.u, h2.v, Kd.R_grown2 h.q rfl h2.g (by intro k hk; simp at hk; subst hk; simp [Value.ownBlock]; exact fun h => h1 h.symm), pw_below_grown h.b _ h.b.size h2.g (by intro k hk; simp at hk; subst hk; exact h3)⟩
theorem Tri.cells {w W : World} {gu N cu gv n cv go m co : Nat} {U V Q : List Int} (h : Tri w W gu N cu U gv n cv V go m co Q) (i : Nat) (hi : i < N) : W.cell? ⟨gu, i, none⟩ = some (.int .u32 (U.getD i 0)) := (own_cell h.u i hi).1
theorem Tri.qcell {w W : World} {gu N cu gv n cv go m co : Nat} {U V Q : List Int} (h : Tri w W gu N cu U gv n cv V go m co Q) (i : Nat) (hi : i < m) : W.cell? ⟨go, i, none⟩ = some (.int .u32 (Q.getD i 0)) ∧ W.frozen? ⟨go, i, none⟩ = false := own_cell h.q i hi
theorem w64n (i : Nat) (h : i < 1000000) : wrap64 ((i : Int) + 1) = (i : Int) + 1 := w64 (by omega) (by omega)
theorem u64k {x : Int} (h0 : 0 ≤ x) (h1 : x < 4294967296) : IntKind.u64.wrap (x * 4294967296) = x * 4294967296 := u64 (by omega) (by omega)
theorem u32m (x : Int) : IntKind.u32.wrap x = x % 4294967296 := rfl
theorem div_end {ul V U Q R : List Int} {n : Nat} {p pp A B : Int} (h : LdI ul V n 0 U Q) (d : DnI U p n (n + 2) R) (hp : 0 < p) (hpp : p * pp = 4294967296) (hV : V.length = n + 2) (dV : Dg 4294967296 V) (hU : n + 2 < U.length) (eV : dv 4294967296 V = B * p) (eU : dv 4294967296 ul = A * p) : A = dv 4294967296 Q * B + dv 4294967296 R ∧ dv 4294967296 R < B := by
 have h1 := dv_split 4294967296 U (n + 2) (by omega)
 have h2 := h.top
 rw [List.drop_zero] at h2
 have h3 := dv_lt (by decide) dV
 rw [hV] at h3
 have h4 := dv_nonneg (by decide) (h.dU.take (n + 2))
 have h5 := dv_nonneg (by decide) (h.dU.drop (n + 2))
 have hM := pow_pos (B := 4294967296) (by decide) (n + 2)
 have z : dv 4294967296 (U.drop (n + 2)) = 0 := by
  refine Int.le_antisymm (Int.le_of_not_gt fun h6 => ?_) h5
  have h7 : pw 4294967296 (n + 2) * 1 ≤ pw 4294967296 (n + 2) * dv 4294967296 (U.drop (n + 2)) := Int.mul_le_mul_of_nonneg_left (by omega) (by omega)
  omega
 have z2 : U.getD (n + 2) 0 = 0 := by
  have := dv_drop 4294967296 U (n + 2) hU
  have h6 := h.dU.getD (by decide) (n + 2)
  have h7 := dv_nonneg (by decide) (h.dU.drop (n + 2 + 1))
  omega
 have e0 := dv_drop 4294967296 U 0 (by omega)
 rw [List.drop_zero] at e0
 have hv := h.val
 rw [List.drop_zero] at hv
 have hd := d.val
 rw [List.take_of_length_le (by rw [d.len]; exact Nat.le_refl _), z2, Int.zero_emod, Int.zero_mul, Int.add_zero] at hd
 rw [z, Int.mul_zero, Int.add_zero] at h1
 rw [← h1] at hd
 simp only [pw, Int.mul_one] at hv
 generalize dv 4294967296 (U.drop (0 + 1)) = t at *
 have m0 : U.getD 0 0 % p = 0 := by
  have : U.getD 0 0 = p * (A - dv 4294967296 Q * B - pp * t) := by grind
  rw [this]
  exact Int.mul_emod_right _ _
 rw [m0] at hd
 have e1 : (A - dv 4294967296 Q * B - dv 4294967296 R) * p = 0 := by grind
 have e2 : A - dv 4294967296 Q * B - dv 4294967296 R = 0 := by
  rcases Int.mul_eq_zero.1 e1 with h | h
  ·exact h
  ·omega
 refine ⟨by omega, lt_of_mul (c := p) ?_ hp⟩
 omega
set_option maxHeartbeats 16000000 in
set_option maxRecDepth 100000 in
theorem divMag_c (A0 : Option Addr) (c0 : Nat) (la : List Int) (A1 : Option Addr) (c1 n : Nat) (lb : List Int) (w : World) (h0 : la.length ≤ c0) (r0 : Kd.C (Kd.int .u32) w A0 la.length la) (h1 : n + 2 ≤ c1) (r1 : Kd.C (Kd.int .u32) w A1 lb.length lb) (hl : lb.length = n + 2) (ha : Cn 4294967296 la) (hb : Cn 4294967296 lb) (hn : la.length ≤ 1000) (hm : n ≤ 1000) (hle : dv 4294967296 lb ≤ dv 4294967296 la) :
  Calls Try.prog 106 #[.slice A0 la.length c0, .slice A1 (n + 2) c1] w (DivP w la lb) := by
 have hll : n + 2 ≤ la.length := by
  rw [← hl]
  refine Nat.le_of_not_lt fun h => ?_
  have := dv_len (by decide) ha.dg hb h
  omega
 have ht0 := hb.dg.getD (by decide) (n + 1)
 have ht1 := top_getD hb.top (by omega)
 rw [hl, show n + 2 - 1 = n + 1 by omega] at ht1
 obtain ⟨b, hb31, hlz, hz1, hz2⟩ := lz_num (lb.getD (n + 1) 0) (by omega) ht0.2
 rw [hl] at r1
 obtain ⟨adb, eb, hbc⟩ := mag_cell r1 (Below.refl _ _) (n + 1) (by omega)
 cases eb
 generalize hT : lb.getD (n + 1) 0 = top at hbc ht0 hlz
 have hn1 : decide ((n : Int) + 2 = 1) = false := by apply decide_eq_false; omega
 have hn2 : ((n : Int) + 2 == 1) = false := by apply beq_eq_false_iff_ne.2; omega
 have ht2 : ((n : Int) + 2).toNat = n + 2 := by omega
 have hmx : max ((n : Int) + 2) 0 = (n : Int) + 2 := by omega
 have HR := Aside0.mk (And.intro r0 r1)
 have HTP := Aside0.mk hT
 have HC := Aside0.mk (And.intro ha hb)
 have HL := Aside0.mk (And.intro hle hl)
 have HZ := Aside0.mk (And.intro hlz (And.intro hz1 hz2))
 obtain ⟨ht0a, ht0b⟩ := ht0
 clear r0 r1 ha hb hle hz1 hz2 hlz hl ht1 hT
 obtain ⟨s, hs⟩ : ∃ s, la.length = n + 2 + s := ⟨la.length - (n + 2), by omega⟩
 have hsi : (la.length : Int) - ((n : Int) + 2) = (s : Int) := by omega
 have HSS := Aside0.mk hs
 clear hs
 go_enter Try.func106, Try.ntmps106
 go_wp2_with fail
 have hcm := cmpMag_n A0 c0 la (some adb) c1 lb w h0 HR.out.1 (by rw [HL.out.2]; exact h1) (by rw [HL.out.2]; exact HR.out.2) HC.out.1 HC.out.2 (by omega) (by rw [HL.out.2]; omega)
 rw [HL.out.2] at hcm
 refine hcm.mono ?_
 clear hcm
 rintro e w1 ⟨c, rfl, hs, hb1⟩
 have hc : 0 ≤ c := by have := HL.out.1; unfold Sg at hs; omega
 have HB1 := Aside0.mk hb1
 have hbc1 : w1.cell? (adb.add (n + 1)) = some (.int .u32 top) := pw_cell_below hb1 hbc
 have hbc2 : w1.cell? { block := adb.block, off := adb.off + (n + 1) } = some (.int .u32 top) := hbc1
 clear hs hb1
 go_wp2_with fail
 refine (bits_LeadingZeros32 top w1 ht0a (by omega)).mono ?_
 rintro e w2 ⟨rfl, rfl⟩
 rw [HZ.out.1]
 go_wp2_with fail
 refine start_ (n := 11) (S := fun w' => True) (ds := []) (bs 11 0) (by kernel_rfl) rfl rfl trivial (fun hHeld => ?_)
 refine zP 0 68 11 1 ?_
 refine zP 1 69 11 3 ?_
 refine zP 3 71 11 11 ?_
 refine zP 4 72 11 27 ?_
 refine zP 6 74 11 91 ?_
 refine zP 7 75 11 219 ?_
 refine zN 2 (some 70) 11 223 (fun K hK => ?_)
 refine zG Try.func117 #[.slice A0 la.length c0, .int .i64 (b : Int)] ?_
 with_reducible refine (shift_n A0 c0 la b _ h0 (Kd.C_drew (Kd.C_below HR.out.1 HB1.out)) HC.out.1.dg (by omega) hb31).mono ?_
 rintro e w3 ⟨gu, cu, ul, hgu, rfl, hRu, dU, lU, vU, tU, hb3⟩
 refine ⟨_, rfl, ?_⟩
 refine hK.out _ _ trivial (fun hHeld => ?_)
 clear hK K
 refine zM 70 ?_
 refine zN 5 (some 73) 11 255 (fun K hK => ?_)
 refine zG Try.func117 #[.slice (some adb) (n + 2) c1, .int .i64 (b : Int)] ?_
 with_reducible refine (shift_m (some adb) c1 lb (n + 2) HL.out.2 b _ h1 (Kd.C_below HR.out.2 (HB1.out.trans ((below_drew' hb3).mono HB1.out.size))) HC.out.2.dg (by omega) hb31).mono ?_
 rintro e w4 ⟨gv, cv, vl, hgv, rfl, hRv, dV, lV, vV, tV, hb4⟩
 refine ⟨_, rfl, ?_⟩
 have hcv : (n : Int) + 2 ≤ (cv : Int) := by have := (Kd.R_reads' hRv).2.1; omega
 have hn3 : 0 ≤ (n : Int) + 2 := by omega
 refine hK.out _ _ trivial (fun hHeld => ?_)
 clear hK K
 refine zM 73 ?_
 refine zP 8 76 11 511 ?_
 refine zP 9 9 11 1023 ?_
 refine zP 10 10 11 2047 ?_
 refine done_ (by kernel_rfl) ?_
 have hsz : 0 ≤ (s : Int) + 1 := by omega
 have HU := Aside0.mk (And.intro hRu (And.intro dU (And.intro lU (And.intro vU tU))))
 have HV := Aside0.mk (And.intro hRv (And.intro dV (And.intro lV (And.intro vV tV))))
 have HB4 := Aside0.mk (And.intro hb3 hb4)
 clear hRu dU lU vU tU hRv dV lV vV tV hb3 hb4
 go_wp2_with ((with_reducible refine gate_dst (N := 84) rfl ?_); refine Kd.R_make (Kd.int .u32) _ 147 rfl (N := 84) rfl 127 _ _ rfl ((s : Int) + 1) rfl rfl Try.underlying127 (.int .u32 0) 4 info147 rfl (by decide) (by omega) 0 (ok := fun _ => True) (okp := fun _ => True) rfl (fun _ hk => hk) trivial hsz (by omega) (Below.refl _ _) (Nat.le_refl _) ?_; intro v w5 ho hb hg_ hnew_; clear hg_ hnew_; have HO := Aside0.mk ho; have HB := Aside0.mk hb; clear ho hb)
 obtain ⟨go, co, eo, gb, _, _⟩ := Kd.R_form HO.out (by simp)
 have eo2 : v = .slice (some ⟨go, 0, none⟩) (s + 1) co := by rw [eo]; simp
 have HO2 : Kd.R (Kd.int .u32) 147 w5 0 (fun _ => True) (.slice (some ⟨go, 0, none⟩) (s + 1) co) (List.replicate (s + 1) 0) := by have := Kd.R_lower HO.out (Nat.zero_le _); rw [eo2] at this; simpa using this
 have hgo : go ≠ gu ∧ go ≠ gv ∧ gu ≠ gv ∧ w.heap.size ≤ gu ∧ w.heap.size ≤ gv ∧ w.heap.size ≤ go := by
  have a1 := Kd.R_lt HU.out.1 gu rfl
  have a2 := Kd.R_lt HV.out.1 gv rfl
  have a3 := HB1.out.size
  have a4 : w2.heap.size ≤ gu := hgu
  have a5 := HB4.out.2.size
  have a6 : w4.heap.size ≤ go := gb
  omega
 obtain ⟨n1, n2, n3, n4, n5, n6⟩ := hgo
 have HT := Aside0.mk (show Tri w w5 gu (la.length + 1) cu ul gv (n + 2) cv (vl.take (n + 2)) go (s + 1) co (List.replicate (s + 1) 0) from
  ⟨Kd.R_below (Kd.R_below (Kd.R_lower HU.out.1 (Nat.zero_le _)) HB4.out.2) HB.out, Kd.R_below (Kd.R_take (Kd.R_lower HV.out.1 (Nat.zero_le _)) (by rw [HV.out.2.2.1]; omega)) HB.out, HO2,
     HB1.out.trans ((below_drew' HB4.out.1).mono HB1.out.size |>.trans ((HB4.out.2.mono (by have a1 := HB1.out.size; have a2 : w2.heap.size ≤ w3.heap.size := HB4.out.1.size; omega)).trans (HB.out.mono (by have a1 := HB1.out.size; have a2 : w2.heap.size ≤ w3.heap.size := HB4.out.1.size; have a3 := HB4.out.2.size; omega))))⟩)
 have hcu : la.length + 1 ≤ cu := (Kd.R_reads' HU.out.1).2.1
 have hp31 : (2 : Int) ^ b ≤ 2147483648 := by
  have : b = 0 ∨ b = 1 ∨ b = 2 ∨ b = 3 ∨ b = 4 ∨ b = 5 ∨ b = 6 ∨ b = 7 ∨ b = 8 ∨ b = 9 ∨ b = 10 ∨ b = 11 ∨ b = 12 ∨ b = 13 ∨ b = 14 ∨ b = 15 ∨ b = 16 ∨ b = 17 ∨ b = 18 ∨ b = 19 ∨ b = 20 ∨ b = 21 ∨ b = 22 ∨ b = 23 ∨ b = 24 ∨ b = 25 ∨ b = 26 ∨ b = 27 ∨ b = 28 ∨ b = 29 ∨ b = 30 ∨ b = 31 := by omega
  rcases this with h | h | h | h | h | h | h | h | h | h | h | h | h | h | h | h | h | h | h | h | h | h | h | h | h | h | h | h | h | h | h | h <;> subst h <;> decide
 have hnv := norm_v lb vl n (2 ^ b) (Int.pow_pos (by decide)) HC.out.2 HL.out.2 HV.out.2.1 HV.out.2.2.1 HV.out.2.2.2.1 HZ.out.2.1 HZ.out.2.2
 have HVD := Aside0.mk (And.intro (HV.out.2.1.take (n + 2)) hnv)
 have hLV : (vl.take (n + 2)).length = n + 2 := by rw [List.length_take, HV.out.2.2.1]; omega
 have hLI := LdI.start ul (vl.take (n + 2)) n HU.out.2.1 (by rw [HU.out.2.2.1]; omega) hLV HVD.out.1 (by rw [HU.out.2.2.1, Nat.add_sub_cancel]; have := HVD.out.2.2; have := HU.out.2.2.2.2; omega)
 rw [show ul.length - n - 2 = s + 1 by rw [HU.out.2.2.1, HSS.out]; omega] at hLI
 have HLI := Aside0.mk hLI
 have HX := Aside0.mk (And.intro hcu (And.intro hp31 hLV))
 subst eo2
 clear HO eo HB gb HO2 hcu hp31 hnv hLI hLV hgu hgv HB4 HB1
 go_loopg [12] (s + 1) (fun kq v12 w' => ∃ (z : Int) (U Q : List Int), v12 = .int .i64 z ∧ Aside0 (z = (kq : Int) - 1 ∧ kq ≤ s + 1) ∧ Aside0 (LdI ul (vl.take (n + 2)) n kq U Q) ∧ Aside0 (Tri w w' gu (la.length + 1) cu U gv (n + 2) cv (vl.take (n + 2)) go (s + 1) co Q))
 case atStart => exact ⟨_, _, _, rfl, ⟨by omega⟩, HLI, HT⟩
 case round =>
  clear HLI HT
  obtain ⟨z, U, Q, rfl, HK, HLI, HT⟩ := hrel
  cases gk with
  | zero =>
   obtain rfl : z = -1 := by have := HK.out.1; omega
   have hb9 : decide ((0 : Int) ≤ -1) = false := by decide
   have hn0 : 0 ≤ (n : Int) + 2 := by omega
   go_wp2_with ((with_reducible refine gate_dst (N := 106) rfl ?_); refine Kd.R_make (Kd.int .u32) _ 147 rfl (N := 106) rfl 127 _ _ rfl ((n : Int) + 2) rfl rfl Try.underlying127 (.int .u32 0) 4 info147 rfl (by decide) (by omega) 0 (ok := fun _ => True) (okp := fun _ => True) rfl (fun _ hk => hk) trivial hn0 (by omega) (Below.refl _ _) (Nat.le_refl _) ?_; intro v w5 ho hb hg_ hnew_; clear hg_ hnew_; have HO := Aside0.mk ho; have HB := Aside0.mk hb; clear ho hb)
   obtain ⟨gr, cr, eo, gb, _, _⟩ := Kd.R_form HO.out (by simp; omega)
   have eo2 : v = .slice (some ⟨gr, 0, none⟩) (n + 2) cr := by rw [eo]; simp; omega
   have HT2 := Aside0.mk (show Tri w w5 gu (la.length + 1) cu U go (s + 1) co Q gr (n + 2) cr (List.replicate (n + 2) 0) from
    ⟨Kd.R_below HT.out.u HB.out, Kd.R_below HT.out.q HB.out, by have := Kd.R_lower HO.out (Nat.zero_le _); rw [eo2] at this; rw [show ((n : Int) + 2).toNat = n + 2 by omega] at this; exact this, HT.out.b.trans (HB.out.mono HT.out.b.size)⟩)
   have hgr : gr ≠ gu ∧ gr ≠ go ∧ w.heap.size ≤ gr := by
    have a1 := Kd.R_lt HT.out.u gu rfl
    have a2 := Kd.R_lt HT.out.q go rfl
    have a3 := HT.out.b.size
    have a4 : wr.heap.size ≤ gr := gb
    omega
   obtain ⟨m1, m2, m3⟩ := hgr
   have HD0 := Aside0.mk (DnI.start U (2 ^ b) n)
   subst eo2
   clear HO eo HB gb HT
   go_loopg [108] (n + 2) (fun kq v108 w' => ∃ (i : Nat) (R : List Int), v108 = .int .i64 (i : Int) ∧ Aside0 (i + kq = n + 2) ∧ Aside0 (DnI U (2 ^ b) n i R) ∧ Aside0 (Tri w w' gu (la.length + 1) cu U go (s + 1) co Q gr (n + 2) cr R))
   case atStart => exact ⟨0, _, rfl, ⟨by omega⟩, HD0, HT2⟩
   case round =>
    clear HD0 HT2
    obtain ⟨i, R, rfl, HK2, HD, HT⟩ := hrel
    cases gk with
    | zero =>
     have hi : i = n + 2 := HK2.out
     have hb0 : decide ((i : Int) < (n : Int) + 2) = false := decide_eq_false (by omega)
     have HI2 := Aside0.mk hi
     clear hi
     go_wp2_with fail
     refine (trim_n _ Q _ _ _ HT.out.v HLI.out.dq (by rw [HLI.out.lq, HU.out.2.2.1]; omega)).mono ?_
     rintro e w6 ⟨v0, q, rfl, hM0, hc0, hv0, hl0, hb0⟩
     have HQ := Aside0.mk (And.intro hM0 (And.intro hc0 (And.intro hv0 (And.intro hl0 hb0))))
     clear hM0 hc0 hv0 hl0 hb0
     go_wp2_with fail
     refine (trim_n _ R _ _ _ (Kd.R_below HT.out.q HQ.out.2.2.2.2) HD.out.dg (by rw [HD.out.len]; omega)).mono ?_
     rintro e w7 ⟨v1, r, rfl, hM1, hc1, hv1, hl1, hb1⟩
     have HR1 := Aside0.mk (And.intro hM1 (And.intro hc1 (And.intro hv1 (And.intro hl1 hb1))))
     clear hM1 hc1 hv1 hl1 hb1
     go_wp2_with fail
     go_ret2
     obtain ⟨hM0, hc0, hv0, hl0, hb0⟩ := HQ.out
     obtain ⟨hM1, hc1, hv1, hl1, hb1⟩ := HR1.out
     have hE := div_end (pp := 2 ^ (32 - b)) HLI.out (HI2.out ▸ HD.out) (Int.pow_pos (by decide)) (by rw [← Int.pow_add, show b + (32 - b) = 32 by omega]; decide) HX.out.2.2 HVD.out.1 (by rw [HLI.out.lU, HU.out.2.2.1]; omega) HVD.out.2.1 HU.out.2.2.2.1
     refine ⟨_, _, q, r, rfl, hM0.below hb1, hM1, hc0, hc1, ?_, ?_, ?_, ?_, HT.out.b.trans ((hb0.mono HT.out.b.size).trans (hb1.mono (HT.out.b.trans (hb0.mono HT.out.b.size)).size))⟩
     ·have := HLI.out.lq
      rw [HU.out.2.2.1] at this
      omega
     ·have := HD.out.len
      have := HL.out.2
      omega
     ·rw [hv0, hv1]; exact hE.1
     ·rw [hv1]; exact hE.2
    | succ k2 =>
     have hi : i < n + 2 := by have := HK2.out; omega
     have hi1000 : i < 1000000 := by omega
     have hb0 : decide ((i : Int) < (n : Int) + 2) = true := decide_eq_true (by omega)
     have hbn : 0 ≤ (b : Int) := by omega
     have hw2 : ((i : Int) + 1).toNat = i + 1 := by omega
     have hw3 : 0 ≤ (i : Int) + 1 := by omega
     have hw4 : (i : Int) + 1 < (la.length : Int) + 1 := by omega
     have hw5 : (i : Int) < (la.length : Int) + 1 := by omega
     have hw6 : (i : Int) < (n : Int) + 2 := by omega
     have hc0 := HT.out.cells i (by omega)
     have hc1 := HT.out.cells (i + 1) (by omega)
     obtain ⟨hy1, hz1⟩ := HT.out.qcell i hi
     have hst := HD.out.step (pp := 2 ^ (32 - b)) HLI.out.dU (Int.pow_pos (by decide)) (by rw [← Int.pow_add, show b + (32 - b) = 32 by omega]; decide) hi
     have hu0 := HLI.out.dU.getD (by decide) i
     have hu1 := HLI.out.dU.getD (by decide) (i + 1)
     generalize U.getD i 0 = u0 at hc0 hst hu0
     generalize U.getD (i + 1) 0 = u1 at hc1 hst hu1
     obtain ⟨hu00, hu01⟩ := hu0
     obtain ⟨hu10, hu11⟩ := hu1
     have hor : bits BinOp.or IntKind.u64 (u1 * 4294967296) u0 = u1 * 4294967296 + u0 := or_high _ _ 32 (by omega) (by omega) (by omega) hu00 (by omega) (by omega)
     have hv1 : IntKind.u64.wrap u1 = u1 := u64 hu10 (Int.lt_trans hu11 (by decide))
     have hv2 : IntKind.u64.wrap (u1 * 4294967296) = u1 * 4294967296 := u64k hu10 hu11
     have hv3 : IntKind.u64.wrap u0 = u0 := u64 hu00 (Int.lt_trans hu01 (by decide))
     have hw1 : wrap64 ((i : Int) + 1) = (i : Int) + 1 := w64n i hi1000
     rw [← u32m] at hst
     have HST := Aside0.mk hst
     clear hst
     go_wp2_with fail
     refine start_ (n := 20) (S := fun w' => w'.cell? ⟨gu, i, none⟩ = some (.int .u32 u0) ∧ w'.cell? ⟨gu, i + 1, none⟩ = some (.int .u32 u1) ∧ w'.cell? ⟨gr, i, none⟩ = some (.int .u32 (R.getD i 0)) ∧ w'.frozen? ⟨gr, i, none⟩ = false) (ds := [19]) (bs 20 0) (by kernel_rfl) rfl rfl ⟨hc0, hc1, hy1, hz1⟩ (fun hHeld => ?_)
     refine zP 0 111 20 1 ?_
     refine zP 1 112 20 3 ?_
     refine zP 2 113 20 7 ?_
     refine zP 3 114 20 15 ?_
     refine zP 4 115 20 31 ?_
     refine zP 5 116 20 63 ?_
     refine zP 9 120 20 575 ?_
     refine zP 10 121 20 1599 ?_
     refine zP 11 122 20 3647 ?_
     refine zP 15 126 20 36415 ?_
     refine zT 6 117 20 36479 hHeld ?_
     refine zP 7 118 20 36607 ?_
     refine zP 8 119 20 36863 ?_
     refine zT 12 123 20 40959 hHeld ?_
     refine zP 13 124 20 49151 ?_
     refine zP 14 125 20 65535 ?_
     refine zP 16 127 20 131071 ?_
     refine zP 17 128 20 262143 ?_
     refine zP 18 129 20 524287 ?_
     refine zL 19 none 20 1048575 (fun K hK => ?_)
     refine skip_ (w1 := ?_) (by rfl) rfl ?_ ?_
     rotate_left
     ·(go_simp; with_reducible rfl)
     refine hK.out _ _ ?_
     clear hK K
     refine done_ (by kernel_rfl) ?_
     have HT9 := Aside0.mk ((HT.out.put m1.symm m2.symm m3 i (IntKind.u32.wrap ((u1 * 4294967296 + u0) / 2 ^ b))).drewN 1)
     generalize hW : World.drew _ = WW
     have HT10 := Aside0.mk (show Tri w WW gu (la.length + 1) cu U go (s + 1) co Q gr (n + 2) cr (R.set i (IntKind.u32.wrap ((u1 * 4294967296 + u0) / 2 ^ b))) from by rw [← hW]; exact HT9.out)
     have HK3 := Aside0.mk (And.intro HK2.out HST.out)
     clear hW HT9 HT hor hv1 hv2 hv3 hw1 HST hc0 hc1 hy1 hz1 hw2 hw3 hw4 hw5 hu00 hu01 hu10 hu11
     go_wp2_with fail
     go_roundg k2
     case measure => omega
     case rel =>
      exact ⟨i + 1, _, by simp, ⟨by have := HK3.out.1; omega⟩, ⟨HK3.out.2⟩, HT10⟩
  | succ k1 =>
   obtain rfl : z = (k1 : Int) := by have := HK.out.1; omega
   have hk : k1 < s + 1 := by have := HK.out.2; omega
   have hcut : (k1 : Int) + ((n : Int) + 2) + 1 ≤ (cu : Int) := by have := HX.out.1; have := HSS.out; omega
   have hcut0 : 0 ≤ (k1 : Int) + ((n : Int) + 2) + 1 := by omega
   have hcut1 : k1 ≤ k1 + (n + 2) + 1 := by omega
   obtain ⟨w1, w2', w3', w4', w5', w6'⟩ := HLI.out.win HX.out.2.2 HVD.out.1 (by rw [HU.out.2.2.1, HSS.out]; omega)
   have hdg := digit_n wr wr gu gv (la.length + 1) cu cv n (cu - k1) (U.take k1) (U.drop (k1 + (n + 3))) ((U.drop k1).take (n + 3)) (vl.take (n + 2)) (fun h => n3 h.symm) (HT.out.two w1) HX.out.2.2 w3' HVD.out.1 w4' HVD.out.2.2 w6' (by omega) (by omega)
   rw [w2'] at hdg
   have HDG := Aside0.mk hdg
   obtain ⟨hy1, hz1⟩ := HT.out.qcell k1 hk
   clear w1 w2' w3' w4' w5' w6' hdg
   go_wp2_with fail
   ·rw [show k1 + (n + 2) + 1 - k1 = n + 3 by omega]
    refine HDG.out.mono ?_
    rintro e w6 ⟨q, Y', rfl, hTw, lY, dY, hq0, hq1, hqv, hqlt⟩
    have HT6 := Aside0.mk (HT.out.dug hTw n1 n4)
    have hst := HLI.out.step HX.out.2.2 HVD.out.1 (by rw [HU.out.2.2.1, HSS.out]; omega) lY dY hq0 hq1 hqv hqlt
    have HST := Aside0.mk hst
    obtain ⟨hy6, hz6⟩ := HT6.out.qcell k1 hk
    clear hTw lY dY hqv hqlt hst hy1 hz1 HDG
    go_wp2_with fail
    go_roundg k1
    case measure => omega
    case rel => exact ⟨_, _, _, rfl, ⟨by have := HK.out; omega⟩, HST, ⟨HT6.out.put (fun h => n1 h.symm) (fun h => n2 h.symm) n6 k1 _⟩⟩
end Go.Proofs.Ytknklchmpohjfaa.Dc
namespace Go.Proofs.Ytknklchmpohjfaa.Qa
open Go.RowKit Go Go.Proofs.YtknklchmpohjfaaW.PrintWords Go.Proofs.YtknklchmpohjfaaW.PrintLast Go.Proofs.YtknklchmpohjfaaW.PrintMore Go.Proofs.Ytknklchmpohjfaa.Ml Go.Proofs.Ytknklchmpohjfaa.Mn Go.Proofs.Ytknklchmpohjfaa.Nd Go.Proofs.Ytknklchmpohjfaa.Z Go.Proofs.Ytknklchmpohjfaa.P Go.Proofs.Ytknklchmpohjfaa.Nc Go.Proofs.Ytknklchmpohjfaa.Na Go.Proofs.Ytknklchmpohjfaa.Nb Go.Proofs.Ytknklchmpohjfaa.Ns Go.Proofs.Ytknklchmpohjfaa.Da Go.Proofs.Ytknklchmpohjfaa.Dc
attribute [local go_sem] max2_int min2_int max_two min_two
set_option linter.unusedVariables false
set_option linter.unusedSimpArgs false
theorem divMag_n (A0 : Option Addr) (c0 : Nat) (la : List Int) (A1 : Option Addr) (c1 : Nat) (lb : List Int) (w : World) (h0 : la.length ≤ c0) (r0 : Kd.C (Kd.int .u32) w A0 la.length la) (h1 : lb.length ≤ c1) (r1 : Kd.C (Kd.int .u32) w A1 lb.length lb) (ha : Cn 4294967296 la) (hb : Cn 4294967296 lb) (hp : lb ≠ []) (hn : la.length ≤ 1000) (hm : lb.length ≤ 1000) :
  Calls Try.prog 106 #[.slice A0 la.length c0, .slice A1 lb.length c1] w (DivP w la lb) := by
 by_cases hlt : dv 4294967296 la < dv 4294967296 lb
 ·exact divMag_a A0 c0 la A1 c1 lb w h0 r0 h1 r1 ha hb hn hm hlt
 ·rcases lb with _ | ⟨x, _ | ⟨y, t⟩⟩
  ·exact absurd rfl hp
  ·exact divMag_b A0 c0 la A1 c1 x w h0 r0 h1 r1 ha hb hn (by omega)
  ·exact divMag_c A0 c0 la A1 c1 t.length (x :: y :: t) w h0 r0 (by simpa using h1) r1 (by simp) ha hb hn (by simp at hm; omega) (by omega)
theorem Wrote.room {w w' : World} {g o g2 o2 : Nat} (h : Wrote w w' g o) (hr : Room w g2 o2) (hne : g2 ≠ g) : Room w' g2 o2 := by
 obtain ⟨n, v, hs⟩ := hr
 exact ⟨n, v, h.slot hs (.inl hne)⟩
set_option maxHeartbeats 4000000 in
theorem signI_n (ga oa : Nat) (a : Int) (na : Nat) (w : World) (ha : IsN w ga oa a na) :
  Calls Try.prog 93 #[.pointer (some ⟨ga, oa, none⟩)] w (ValP w (.int .i64 (cmpI a 0))) := by
 obtain ⟨nega, Aa, cca, la, sa, hca, ra, ca, hla, hza, qa⟩ := ha.open
 have a0 := sa.cell0
 have a1 := sa.cell1
 have hz : la = [] → cmpI a 0 = 0 := by
  intro h; rw [hza, h]; cases nega <;> simp [sg, dv, cmpI]
 have hp : la ≠ [] → 0 < dv 4294967296 la := by
  intro h
  have h1 := dv_len (a := []) (by decide) (Dg.nil _) ca (by cases la with | nil => exact absurd rfl h | cons x t => simp)
  simpa only [dv] using h1
 cases la with
 | nil =>
  rw [hz rfl]
  clear hz hp hza qa ha
  go_enter Try.func93, Try.ntmps93
  go_wp2_with fail
  go_ret
  exact ⟨rfl, Below.refl _ _⟩
 | cons x t =>
  have hp1 := hp (by simp)
  have hb0 : ((((x :: t).length : Nat) : Int) == 0) = false := by simp; omega
  cases nega with
  | true =>
   rw [show cmpI a 0 = -1 by rw [hza]; simp [sg, cmpI]; omega]
   clear hz hp hza qa ha hp1
   go_enter Try.func93, Try.ntmps93
   go_wp2_with fail
   go_ret
   exact ⟨rfl, Below.refl _ _⟩
  | false =>
   rw [show cmpI a 0 = 1 by rw [hza]; simp [sg, cmpI]; omega]
   clear hz hp hza qa ha hp1
   go_enter Try.func93, Try.ntmps93
   go_wp2_with fail
   go_ret
   exact ⟨rfl, Below.refl _ _⟩
structure LwI (la : List Int) (k : Nat) (v : Int) : Prop where
 v0 : 0 ≤ v
 v1 : v < pw 4294967296 (min 2 la.length - k)
 val : v = dv 4294967296 ((la.take 2).drop k)
theorem LwI.start (la : List Int) : LwI la (min 2 la.length) 0 := by
 refine ⟨by omega, by simp [pw], ?_⟩
 rw [List.drop_of_length_le (by simp [List.length_take])]
 rfl
theorem LwI.step {la : List Int} {k : Nat} {v : Int} (h : LwI la (k + 1) v) (hd : Dg 4294967296 la) (hk : k < min 2 la.length) : v < 4294967296 ∧ LwI la k (v * 4294967296 + la.getD k 0) := by
 have h1 := hd.getD (by decide) k
 have h2 : v < 4294967296 := by
  have := h.v1
  have h3 : min 2 la.length - (k + 1) = 0 ∨ min 2 la.length - (k + 1) = 1 := by omega
  rcases h3 with h3 | h3 <;> rw [h3] at this <;> simp [pw] at this <;> omega
 have e1 := dv_drop 4294967296 (la.take 2) k (by rw [List.length_take]; exact hk)
 have e2 : (la.take 2).getD k 0 = la.getD k 0 := by
  simp only [List.getD_eq_getElem?_getD, List.getElem?_take]
  rw [if_pos (by omega)]
 refine ⟨h2, by have := h.v0; omega, ?_, ?_⟩
 ·have h4 := dv_lt (by decide) ((hd.take 2).drop k)
  rw [List.length_drop, List.length_take] at h4
  have h5 := h.val
  have : v * 4294967296 + la.getD k 0 = dv 4294967296 ((la.take 2).drop k) := by rw [e1, e2, h5]; omega
  rw [this]
  exact h4
 ·rw [e1, e2, h.val]; omega
end Go.Proofs.Ytknklchmpohjfaa.Qa
namespace Go.Proofs.Ytknklchmpohjfaa.Ea
open Go.RowKit Go Go.Proofs.YtknklchmpohjfaaW.PrintWords Go.Proofs.YtknklchmpohjfaaW.PrintLast Go.Proofs.YtknklchmpohjfaaW.PrintMore Go.Proofs.Ytknklchmpohjfaa.Ml Go.Proofs.Ytknklchmpohjfaa.Mn Go.Proofs.Ytknklchmpohjfaa.Nd Go.Proofs.Ytknklchmpohjfaa.Z Go.Proofs.Ytknklchmpohjfaa.P Go.Proofs.Ytknklchmpohjfaa.Nc Go.Proofs.Ytknklchmpohjfaa.Nb Go.Proofs.Ytknklchmpohjfaa.Qa
set_option linter.unusedVariables false
set_option linter.unusedSimpArgs false
def lowN (n d : Int) : Int := n / (Int.gcd n d : Int)
def lowD (n d : Int) : Int := d / (Int.gcd n d : Int)
end Go.Proofs.Ytknklchmpohjfaa.Ea
namespace Go.Proofs.Ytknklchmpohjfaa.Ra
open Go.RowKit Go Go.Proofs.YtknklchmpohjfaaW.PrintWords Go.Proofs.YtknklchmpohjfaaW.PrintLast Go.Proofs.YtknklchmpohjfaaW.PrintMore Go.Proofs.Ytknklchmpohjfaa.Ml Go.Proofs.Ytknklchmpohjfaa.Mn Go.Proofs.Ytknklchmpohjfaa.Nd Go.Proofs.Ytknklchmpohjfaa.Z Go.Proofs.Ytknklchmpohjfaa.P Go.Proofs.Ytknklchmpohjfaa.Nc Go.Proofs.Ytknklchmpohjfaa.Nb Go.Proofs.Ytknklchmpohjfaa.Da Go.Proofs.Ytknklchmpohjfaa.Qa Go.Proofs.Ytknklchmpohjfaa.Ea
set_option linter.unusedVariables false
set_option linter.unusedSimpArgs false
def ratN (n d : Int) : Int := if d < 0 then lowN (-n) (-d) else lowN n d
def ratD (n d : Int) : Int := if d < 0 then lowD (-n) (-d) else lowD n d
structure GcI (w0 w : World) (a b : Int) (n : Nat) (vg vr : Value) (k : Nat) : Prop where mk ::
 at_ : ∃ Ag cg lg Ar cr lr, vg = .slice Ag (List.length lg) cg ∧ vr = .slice Ar (List.length lr) cr ∧ lg.length ≤ cg ∧ lr.length ≤ cr ∧ Kd.C (Kd.int .u32) w Ag lg.length lg ∧ Kd.C (Kd.int .u32) w Ar lr.length lr ∧ Cn 4294967296 lg ∧ Cn 4294967296 lr ∧ lg.length ≤ n ∧ lr.length ≤ n ∧ Int.gcd (dv 4294967296 lg) (dv 4294967296 lr) = Int.gcd a b ∧ dv 4294967296 lr ≤ (k : Int)
 b : Below w0.heap.size w0 w
theorem dv_pos {l : List Int} (h : Cn 4294967296 l) (hl : l ≠ []) : 0 < dv 4294967296 l := by
 have h1 := dv_len (a := []) (by decide) (Dg.nil _) h (by cases l with | nil => exact absurd rfl hl | cons x t => simp)
 simpa only [dv] using h1
theorem gcd_step {x y q r : Int} (h : x = q * y + r) : Int.gcd y r = Int.gcd x y := by
 rw [h, Int.gcd_comm (q * y + r) y, Int.mul_comm]
 simp
theorem quo_exact {x g q r : Int} (hg : 0 < g) (hd : g ∣ x) (h0 : 0 ≤ r) (h1 : r < g) (h : x = q * g + r) : q = x / g := by
 have : x / g = q := by
  rw [h, Int.add_comm, Int.add_mul_ediv_right _ _ (by omega), Int.ediv_eq_zero_of_lt h0 h1]
  omega
 exact this.symm
theorem sg_quo {na nb : Bool} {a b A B G : Int} (ha : a = sg na A) (hb : b = sg nb B) (hA : 0 ≤ A) (hB : 0 < B) (hG : G = (Int.gcd a b : Nat)) : sg (!(na == nb)) (A / G) = ratN a b ∧ B / G = ratD a b := by
 have e : ∀ n : Int, Int.gcd (-n) b = Int.gcd n b := fun n => Int.neg_gcd
 have dA : G ∣ A := by
  have : G ∣ a := by rw [hG]; exact Int.gcd_dvd_left _ _
  rw [ha] at this
  cases na
  ·simpa [sg] using this
  ·simpa [sg] using this
 unfold ratN ratD lowN lowD
 cases nb with
 | true =>
  have hb' : b = -B := by simpa [sg] using hb
  rw [if_pos (by omega), if_pos (by omega)]
  rw [show Int.gcd (-a) (-b) = Int.gcd a b by rw [Int.neg_gcd, Int.gcd_neg], ← hG, hb', Int.neg_neg]
  cases na with
  | true =>
   have ha' : a = -A := by simpa [sg] using ha
   rw [ha', Int.neg_neg]
   exact ⟨rfl, rfl⟩
  | false =>
   have ha' : a = A := by simpa [sg] using ha
   rw [ha', Int.neg_ediv_of_dvd dA]
   exact ⟨rfl, rfl⟩
 | false =>
  have hb' : b = B := by simpa [sg] using hb
  rw [if_neg (by omega), if_neg (by omega), ← hG, hb']
  cases na with
  | true =>
   have ha' : a = -A := by simpa [sg] using ha
   rw [ha', Int.neg_ediv_of_dvd dA]
   exact ⟨rfl, rfl⟩
  | false =>
   have ha' : a = A := by simpa [sg] using ha
   rw [ha']
   exact ⟨rfl, rfl⟩
theorem sg_dvd {s : Bool} {x z g : Int} (h : z = sg s x) (hd : g ∣ z) : g ∣ x := by
 subst h
 cases s
 ·simpa [sg] using hd
 ·simpa [sg] using hd
def SfP (w : World) (gx : Nat) (a b : Int) (na nb B : Nat) (e : Ending) (w' : World) : Prop := e = .returned (.pointer (some ⟨gx, 0, none⟩)) ∧ Below B w w' ∧ IsN w' gx 0 (ratN a b) na ∧ IsN w' gx 2 (ratD a b) nb
theorem sg_bne (a b : Bool) : (a != b) = !(a == b) := by cases a <;> cases b <;> rfl
set_option maxHeartbeats 8000000 in
set_option maxRecDepth 100000 in
theorem setFrac_n (gx ga oa gb ob : Nat) (a b : Int) (na nb B : Nat) (w : World) (hx0 : Room w gx 0) (hx2 : Room w gx 2) (ha : IsN w ga oa a na) (hb : IsN w gb ob b nb) (hbp : b ≠ 0) (hl : na + nb ≤ 1000) (hB1 : B ≤ gx) :
  Calls Try.prog 94 #[.pointer (some ⟨gx, 0, none⟩), .pointer (some ⟨ga, oa, none⟩), .pointer (some ⟨gb, ob, none⟩)] w (SfP w gx a b na nb B) := by
 obtain ⟨nega, Aa, cca, la, sa, hca, ra, ca, hla, hza, qa⟩ := ha.open
 obtain ⟨negb, Ab, ccb, lb, sb, hcb, rb, cb, hlb, hzb, qb⟩ := hb.open
 have a1 := sa.cell1
 have b1 := sb.cell1
 have lgx := hx0.lt
 go_enter Try.func94, Try.ntmps94
 go_wp2_with fail
 refine start_ (n := 11) (S := fun w' => w'.cell? ⟨ga, oa + 1, none⟩ = some (.slice Aa la.length cca) ∧ w'.cell? ⟨gb, ob + 1, none⟩ = some (.slice Ab lb.length ccb)) (ds := []) (bs 11 0) (by kernel_rfl) rfl rfl ⟨a1, b1⟩ (fun hHeld => ?_)
 refine zP 0 16 11 1 ?_
 refine zP 1 17 11 3 ?_
 refine zP 2 18 11 7 ?_
 refine zP 5 21 11 39 ?_
 refine zP 6 22 11 103 ?_
 refine zP 7 23 11 231 ?_
 refine zT 3 19 11 239 hHeld ?_
 refine zT 8 24 11 495 hHeld ?_
 refine zN 4 (some 20) 11 511 (fun K hK => ?_)
 refine zG Try.func105 #[.slice Aa la.length cca] ?_
 with_reducible refine (clone_n Aa cca la w.drew hca (Kd.C_drew ra) (by omega)).mono ?_
 rintro e w2 ⟨v4, rfl, hM4, hb4⟩
 refine ⟨_, rfl, ?_⟩
 have hb4' := below_drew' hb4
 refine hK.out _ _ ⟨(sa.below hb4').cell1, (sb.below hb4').cell1⟩ (fun hHeld => ?_)
 clear hK K
 refine zM 20 ?_
 refine zP 9 7 11 1023 ?_
 refine zP 10 8 11 2047 ?_
 refine done_ (by kernel_rfl) ?_
 obtain ⟨A4, c4, rfl, hc4, r4⟩ := hM4
 have HI := Aside0.mk (show GcI w w2 a b (na + nb) (.slice A4 la.length c4) (.slice Ab lb.length ccb) (dv 4294967296 lb).toNat from
  ⟨⟨A4, c4, la, Ab, ccb, lb, rfl, rfl, hc4, hcb, r4, Kd.C_below rb hb4', ca, cb, by omega, by omega, by
   have p0 := dv_nonneg (by decide) ca.dg
   have p1 := dv_nonneg (by decide) cb.dg
   rw [hza, hzb]
   cases nega <;> cases negb <;> simp [sg, Int.neg_gcd, Int.gcd_neg], by have := dv_nonneg (by decide) cb.dg; omega⟩, hb4'⟩)
 have HH := Aside0.mk (And.intro ha (And.intro hb (And.intro hx0 hx2)))
 clear hHeld r4 hb4 hb4' hc4 a1 b1
 go_wp2_with fail
 go_loopg [7, 8] (dv 4294967296 lb).toNat (fun kq v7 v8 w' => Aside0 (GcI w w' a b (na + nb) v7 v8 kq))
 case atStart => exact HI
 case round =>
  clear HI
  obtain ⟨⟨⟨Ag, cg, lg, Ar, cr, lr, rfl, rfl, hcg, hcr, rg, rr, cag, car, hlg, hlr, hgc, hk⟩, hbw⟩⟩ := hrel
  by_cases hr : lr = []
  ·subst hr
   have hG : dv 4294967296 lg = (Int.gcd a b : Nat) := by
    have h0 := dv_nonneg (by decide) cag.dg
    rw [← hgc]
    simp only [dv, Int.gcd_zero]
    omega
   have hgp : 0 < dv 4294967296 lg := by
    have := Int.gcd_pos_of_ne_zero_right a hbp
    omega
   have hgn : lg ≠ [] := by rintro rfl; simp [dv] at hgp
   have sa' := sa.below hbw
   have sb' := sb.below hbw
   have a1 := sa'.cell1
   have b1 := sb'.cell1
   have RA := Aside0.mk (And.intro (Kd.C_below ra hbw) (And.intro (Kd.C_below rb hbw) rg))
   have HW := Aside0.mk (And.intro hbw (And.intro hG hgp))
   clear hbw hG hgp hgc hk rr rg
   go_wp2_with fail
   refine (divMag_n Aa cca la Ag cg lg wr hca RA.out.1 hcg RA.out.2.2 ca cag hgn (by omega) (by omega)).mono ?_
   rintro e w3 ⟨v0, v1, q1, r1, rfl, hq1, hr1, cq1, cr1, lq1, lr1, eq1, lt1, hb3⟩
   have a1' := (sa'.below hb3).cell1
   have b1' := (sb'.below hb3).cell1
   have K1 := Aside0.mk (And.intro hq1 (And.intro (quo_exact HW.out.2.2 (sg_dvd hza (HW.out.2.1 ▸ Int.gcd_dvd_left _ _)) (dv_nonneg (by decide) cr1.dg) lt1 eq1) hb3))
   clear hq1 hr1 cr1 lr1 eq1 lt1 a1 b1
   have hbw3 := HW.out.1.trans (hb3.mono HW.out.1.size)
   have HB3 := Aside0.mk hbw3
   go_wp2_with fail
   refine (divMag_n Ab ccb lb Ag cg lg w3 hcb (Kd.C_below RA.out.2.1 hb3) hcg (Kd.C_below RA.out.2.2 hb3) cb cag hgn (by omega) (by omega)).mono ?_
   rintro e w4 ⟨v2, v3, q2, r2, rfl, hq2, hr2, cq2, cr2, lq2, lr2, eq2, lt2, hb4⟩
   have hbw4 := hbw3.trans (hb4.mono hbw3.size)
   have sa4 := sa.below hbw4
   have sb4 := sb.below hbw4
   have a0 := sa4.cell0
   have b0 := sb4.cell0
   have K2 := Aside0.mk (And.intro hq2 (And.intro (quo_exact HW.out.2.2 (sg_dvd hzb (HW.out.2.1 ▸ Int.gcd_dvd_right _ _)) (dv_nonneg (by decide) cr2.dg) lt2 eq2) hb4))
   have HB4 := Aside0.mk hbw4
   clear hq2 hr2 cr2 lr2 eq2 lt2 a1' b1' hb3 hb4 hbw3 hbw4 sa' sb' HB3
   go_wp2_with fail
   refine start_ (n := 10) (S := fun w' => w'.cell? ⟨ga, oa, none⟩ = some (.bool nega) ∧ w'.cell? ⟨gb, ob, none⟩ = some (.bool negb)) (ds := []) (bs 10 0) (by kernel_rfl) rfl rfl ⟨a0, b0⟩ (fun hHeld => ?_)
   refine zP 0 54 10 1 ?_
   refine zP 1 55 10 3 ?_
   refine zP 2 56 10 7 ?_
   refine zP 4 58 10 23 ?_
   refine zP 5 59 10 55 ?_
   refine zP 6 60 10 119 ?_
   refine zT 3 57 10 127 hHeld ?_
   refine zT 7 61 10 255 hHeld ?_
   refine zP 8 62 10 511 ?_
   refine zP 9 15 10 1023 ?_
   refine done_ (by kernel_rfl) ?_
   have X := HH.out.2.2
   have hb5 : Below w4.heap.size w4 w4.drew := below_drew' (Below.refl _ _)
   have hbw5 := HB4.out.trans (hb5.mono HB4.out.size)
   go_wp2_with fail
   refine (set_n gx 0 v0 q1 (nega != negb) na w4.drew (X.1.below hbw5) ((K1.out.1.below K2.out.2.2).below hb5) cq1 (by omega)).mono ?_
   rintro e w6 ⟨rfl, hw6, hN6⟩
   have K3 := Aside0.mk (And.intro hw6 (And.intro hN6 (And.intro hbw5 ((K2.out.1.below hb5)))))
   clear hw6 hN6 hbw5 hb5 X
   go_wp2_with fail
   have hr2' : Room w6 gx 2 := by
    obtain ⟨n2, v2', h2⟩ := HH.out.2.2.2.below K3.out.2.2.1
    exact ⟨n2, v2', K3.out.1.slot h2 (.inr (by omega))⟩
   refine (set_n gx 2 v2 q2 false nb w6 hr2' (K3.out.1.mag (HH.out.2.2.1.below K3.out.2.2.1) K3.out.2.2.2) cq2 (by omega)).mono ?_
   rintro e w7 ⟨rfl, hw7, hN7⟩
   have K4 := Aside0.mk (And.intro hw7 hN7)
   clear hw7 hN7
   go_wp2_with fail
   go_ret
   have hsq := sg_quo hza hzb (dv_nonneg (by decide) ca.dg) (dv_pos cb (by rintro rfl; cases negb <;> simp [dv, sg] at hzb <;> exact hbp hzb)) HW.out.2.1
   rw [← K1.out.2.1, ← K2.out.2.1, ← sg_bne] at hsq
   have hs0 := K3.out.2.2.1.size
   refine ⟨rfl, ?_, hsq.1 ▸ K4.out.1.isN hr2' K3.out.2.1 (.inr (by omega)), hsq.2 ▸ K4.out.2⟩
   have hB : Below B w w4.drew := ⟨K3.out.2.2.1.os, K3.out.2.2.1.tape, K3.out.2.2.1.output, K3.out.2.2.1.size, fun i hi => K3.out.2.2.1.block i (by omega)⟩
   exact hB.trans ((K3.out.1.below hB1 (by omega)).trans (K4.out.1.below hB1 (by have := K3.out.1.size; omega)))
  ·cases gk with
   | zero =>
    exfalso
    have := dv_pos car hr
    omega
   | succ k1 =>
    have hpos : 0 < lr.length := by cases lr with | nil => exact absurd rfl hr | cons x t => simp
    have HW := Aside0.mk (And.intro hbw (And.intro hgc hk))
    have HR := Aside0.mk rr
    have HG := Aside0.mk rg
    clear hbw hgc hk rr rg
    go_wp2_with fail
    refine (divMag_n Ag cg lg Ar cr lr wr hcg HG.out hcr HR.out cag car hr (by omega) (by omega)).mono ?_
    rintro e w3 ⟨v0, v1, q1, r1, rfl, hq1, hr1, cq1, cr1, lq1, lr1, eq1, lt1, hb3⟩
    obtain ⟨A5, c5, rfl, hc5, r5⟩ := hr1
    have HW3 := Aside0.mk (HW.out.1.trans (hb3.mono HW.out.1.size))
    have HN := Aside0.mk (show GcI w w3 a b (na + nb) (.slice Ar lr.length cr) (.slice A5 r1.length c5) k1 from
     ⟨⟨Ar, cr, lr, A5, c5, r1, rfl, rfl, hcr, hc5, Kd.C_below HR.out hb3, r5, car, cr1, hlr, by omega, (gcd_step eq1).trans HW.out.2.1, by have := HW.out.2.2; omega⟩, HW3.out⟩)
    clear hq1 eq1 lt1 hb3 r5
    go_wp2_with fail
    go_roundg k1
    case measure => omega
    case rel => exact HN
theorem down_n (gx : Nat) (z : Int) (n : Nat) (w : World) (h : IsN w gx 2 z n) (hz : z ≠ 0) :
  Calls Try.prog 96 #[.pointer (some ⟨gx, 0, none⟩)] w (fun e w' => e = .returned (.pointer (some ⟨gx, 2, none⟩)) ∧ w = w') := by
 obtain ⟨neg, A, c, l, s, hc, r, cn, hl, hz2, q⟩ := h.open
 have a1 := s.cell1
 have hln : ((l.length : Int) == 0) = false := by
  cases l with
  | nil => exfalso; cases neg <;> simp [dv, sg] at hz2 <;> exact hz hz2
  | cons x t => simp; omega
 go_enter Try.func96, Try.ntmps96
 go_wp2_with fail
 go_ret
 exact ⟨rfl, rfl⟩
end Go.Proofs.Ytknklchmpohjfaa.Ra
namespace Go.Proofs.Ytknklchmpohjfaa.Rf
open Go.RowKit Go Go.Proofs.YtknklchmpohjfaaW.PrintWords Go.Proofs.YtknklchmpohjfaaW.PrintLast Go.Proofs.YtknklchmpohjfaaW.PrintMore Go.Proofs.Ytknklchmpohjfaa.Ml Go.Proofs.Ytknklchmpohjfaa.Mn Go.Proofs.Ytknklchmpohjfaa.Nd Go.Proofs.Ytknklchmpohjfaa.Z Go.Proofs.Ytknklchmpohjfaa.P Go.Proofs.Ytknklchmpohjfaa.Nc Go.Proofs.Ytknklchmpohjfaa.Nb Go.Proofs.Ytknklchmpohjfaa.Qa Go.Proofs.Ytknklchmpohjfaa.Ea Go.Proofs.Ytknklchmpohjfaa.Ra
set_option linter.unusedVariables false
set_option linter.unusedSimpArgs false
def qq (a b : Int) : Rat := Rat.divInt a b
theorem rat_low {a b : Int} (hb : b ≠ 0) : ratN a b = (qq a b).num ∧ ratD a b = ((qq a b).den : Int) := by
 unfold qq ratN ratD lowN lowD
 rw [Rat.num_divInt, Rat.den_divInt, if_neg hb]
 rcases Int.lt_or_le b 0 with h | h
 ·rw [if_pos h, if_pos h, Int.sign_eq_neg_one_of_neg h, Int.neg_gcd, Int.gcd_neg, Int.gcd_comm b a]
  refine ⟨by rw [Int.neg_one_mul], ?_⟩
  rw [Int.natCast_ediv, Int.ofNat_natAbs_of_nonpos (by omega)]
 ·rw [if_neg (by omega), if_neg (by omega), Int.sign_eq_one_of_pos (by omega), Int.gcd_comm b a]
  refine ⟨by rw [Int.one_mul], ?_⟩
  rw [Int.natCast_ediv, Int.natAbs_of_nonneg h]
structure RQ (w : World) (g : Nat) (q : Rat) (n : Nat) : Prop where
 num : IsN w g 0 q.num n
 den : IsN w g 2 (q.den : Int) n
theorem RQ.below {w w' : World} {g : Nat} {q : Rat} {n : Nat} (h : RQ w g q n) (hb : Below w.heap.size w w') : RQ w' g q n := ⟨h.num.below hb, h.den.below hb⟩
theorem RQ.mono {w : World} {g : Nat} {q : Rat} {n m : Nat} (h : RQ w g q n) (hm : n ≤ m) : RQ w g q m := ⟨h.num.mono hm, h.den.mono hm⟩
theorem RQ.lt {w : World} {g : Nat} {q : Rat} {n : Nat} (h : RQ w g q n) : g < w.heap.size := h.num.lt
theorem den0 (q : Rat) : ((q.den : Int)) ≠ 0 := by have := q.den_pos; omega
theorem qq_mul (p q : Rat) : qq (p.num * q.num) ((p.den : Int) * (q.den : Int)) = p * q := by
 unfold qq
 rw [← Rat.divInt_mul_divInt, Rat.num_divInt_den, Rat.num_divInt_den]
def cmpQ (p q : Rat) : Int := if p < q then -1 else if q < p then 1 else 0
theorem cmp_q (p q : Rat) : cmpI (p.num * (q.den : Int)) (q.num * (p.den : Int)) = cmpQ p q := by
 unfold cmpI cmpQ
 simp only [Rat.lt_iff]
def QP (w : World) (q : Rat) (n : Nat) (e : Ending) (w' : World) : Prop := ∃ g, w.heap.size ≤ g ∧ e = .returned (.pointer (some ⟨g, 0, none⟩)) ∧ Below w.heap.size w w' ∧ RQ w' g q n
def QS (w : World) (g : Nat) (q : Rat) (n B : Nat) (e : Ending) (w' : World) : Prop := e = .returned (.pointer (some ⟨g, 0, none⟩)) ∧ Below B w w' ∧ RQ w' g q n
theorem setQ_n (gx ga oa gb ob : Nat) (a b : Int) (n B : Nat) (w : World) (hx0 : Room w gx 0) (hx2 : Room w gx 2) (ha : IsN w ga oa a n) (hb : IsN w gb ob b n) (hbp : b ≠ 0) (hl : n ≤ 500) (hB1 : B ≤ gx) :
  Calls Try.prog 94 #[.pointer (some ⟨gx, 0, none⟩), .pointer (some ⟨ga, oa, none⟩), .pointer (some ⟨gb, ob, none⟩)] w (QS w gx (qq a b) n B) :=
 (setFrac_n gx ga oa gb ob a b n n B w hx0 hx2 ha hb hbp (by omega) hB1).mono fun e w' ⟨h1, h2, h3, h4⟩ => ⟨h1, h2, (rat_low hbp).1 ▸ h3, (rat_low hbp).2 ▸ h4⟩
theorem room_rat0 (w : World) : Room (w.alloc (.cells #[.bool false, .slice none 0 0, .bool false, .slice none 0 0] 131)) w.heap.size 0 :=
 ⟨false, .slice none 0 0, ⟨_, 131, blk_new w _, ⟨none, 0, 0, rfl⟩, rfl, rfl⟩⟩
theorem room_rat2 (w : World) : Room (w.alloc (.cells #[.bool false, .slice none 0 0, .bool false, .slice none 0 0] 131)) w.heap.size 2 :=
 ⟨false, .slice none 0 0, ⟨_, 131, blk_new w _, ⟨none, 0, 0, rfl⟩, rfl, rfl⟩⟩
set_option maxHeartbeats 2000000 in
theorem prod_n (ga oa gb ob : Nat) (a b : Int) (na nb : Nat) (w : World) (ha : IsN w ga oa a na) (hb : IsN w gb ob b nb) (hl : na + nb ≤ 1000) :
  Calls Try.prog 95 #[.pointer (some ⟨ga, oa, none⟩), .pointer (some ⟨gb, ob, none⟩)] w (NewP w (a * b) (na + nb)) := by
 have hb1 : Below w.heap.size w (w.alloc (.cells #[.bool false, .slice none 0 0] 129)) := below_alloc (Below.refl _ w) _
 have HM := Aside0.mk (mul_n w.heap.size 0 ga oa gb ob a b na nb _ (room_new w) (ha.below hb1) (hb.below hb1) hl)
 have HB := Aside0.mk hb1
 clear ha hb hb1
 go_enter Try.func95, Try.ntmps95
 go_wp2_with fail
 refine HM.out.mono ?_
 rintro e w2 ⟨rfl, hw, hN⟩
 have H := Aside0.mk (And.intro hw hN)
 clear hw hN
 go_wp2_with fail
 go_ret
 exact ⟨_, Nat.le_refl _, rfl, HB.out.trans (H.out.1.below (Nat.le_refl _) HB.out.size), H.out.2⟩
set_option maxHeartbeats 4000000 in
theorem newRat_n (a b : Int) (w : World) (a0 : -9223372036854775808 ≤ a) (a1 : a ≤ 9223372036854775807) (b0 : -9223372036854775808 ≤ b) (b1 : b ≤ 9223372036854775807) (hb : b ≠ 0) :
  Calls Try.prog 85 #[.int .i64 a, .int .i64 b] w (QP w (qq a b) 2) := by
 have hb1 : Below w.heap.size w (w.alloc (.cells #[.bool false, .slice none 0 0, .bool false, .slice none 0 0] 131)) := below_alloc (Below.refl _ w) _
 have HR := Aside0.mk (And.intro (room_rat0 w) (And.intro (room_rat2 w) hb1))
 have HA := Aside0.mk (And.intro (And.intro a0 a1) (And.intro (And.intro b0 b1) hb))
 clear a0 a1 b0 b1 hb hb1
 go_enter Try.func85, Try.ntmps85
 go_wp2_with fail
 generalize hW : w.alloc (.cells #[.bool false, .slice none 0 0, .bool false, .slice none 0 0] 131) = W at *
 refine (newInt_n a W HA.out.1.1 HA.out.1.2).mono ?_
 rintro e w2 ⟨g2, hg2, rfl, hb2, hN2⟩
 have H2 := Aside0.mk (And.intro hb2 hN2)
 clear hb2 hN2
 go_wp2_with fail
 refine (newInt_n b w2 HA.out.2.1.1 HA.out.2.1.2).mono ?_
 rintro e w3 ⟨g3, hg3, rfl, hb3, hN3⟩
 have H3 := Aside0.mk (And.intro hb3 hN3)
 clear hb3 hN3
 go_wp2_with fail
 refine (setQ_n w.heap.size g2 0 g3 0 a b 2 w.heap.size w3 ((HR.out.1.below H2.out.1).below H3.out.1) ((HR.out.2.1.below H2.out.1).below H3.out.1) (H2.out.2.below H3.out.1) H3.out.2 HA.out.2.2 (by omega) (Nat.le_refl _)).mono ?_
 rintro e w4 ⟨rfl, hb4, hQ⟩
 have H4 := Aside0.mk (And.intro hb4 hQ)
 clear hb4 hQ
 go_wp2_with fail
 go_ret
 have s1 := HR.out.2.2.size
 have s2 := H2.out.1.size
 exact ⟨_, Nat.le_refl _, rfl, HR.out.2.2.trans ((H2.out.1.mono s1).trans ((H3.out.1.mono (by omega)).trans H4.out.1)), H4.out.2⟩
set_option maxHeartbeats 4000000 in
set_option maxRecDepth 100000 in
theorem mulQ_n (gx gy gz : Nat) (p q : Rat) (n m B : Nat) (w : World) (hx0 : Room w gx 0) (hx2 : Room w gx 2) (hy : RQ w gy p n) (hz : RQ w gz q m) (hl : n + m ≤ 400) (hB : B ≤ gx) :
  Calls Try.prog 80 #[.pointer (some ⟨gx, 0, none⟩), .pointer (some ⟨gy, 0, none⟩), .pointer (some ⟨gz, 0, none⟩)] w (QS w gx (p * q) (n + m) B) := by
 have HX := Aside0.mk (And.intro (And.intro hx0 hx2) (And.intro hy hz))
 have hgx := hx0.lt
 clear hx0 hx2 hy hz
 go_enter Try.func80, Try.ntmps80
 go_wp2_with fail
 have hb0 : Below w.heap.size w w.drew := below_drew' (Below.refl _ _)
 refine start_ (n := 15) (S := fun w' => True) (ds := []) (bs 15 0) (by kernel_rfl) rfl rfl trivial (fun hHeld => ?_)
 refine zP 0 7 15 1 ?_
 refine zP 1 8 15 3 ?_
 refine zP 2 9 15 7 ?_
 refine zP 3 10 15 15 ?_
 refine zP 4 11 15 31 ?_
 refine zP 5 12 15 63 ?_
 refine zP 6 13 15 127 ?_
 refine zP 8 15 15 383 ?_
 refine zP 10 17 15 1407 ?_
 refine zN 7 (some 14) 15 1535 (fun K hK => ?_)
 refine zG Try.func95 #[.pointer (some ⟨gy, 0, none⟩), .pointer (some ⟨gz, 0, none⟩)] ?_
 with_reducible refine (prod_n gy 0 gz 0 p.num q.num n m w.drew (HX.out.2.1.num.below hb0) (HX.out.2.2.num.below hb0) (by omega)).mono ?_
 rintro e w4 ⟨g4, hg4, rfl, hb4, hN4⟩
 refine ⟨_, rfl, ?_⟩
 have hb4' := below_drew' hb4
 have H4 := Aside0.mk (And.intro hb4' hN4)
 clear hb4 hN4 hb4'
 refine hK.out _ _ trivial (fun hHeld => ?_)
 clear hK K
 refine zM 14 ?_
 refine zN 9 (some 16) 15 2047 (fun K hK => ?_)
 refine zG Try.func96 #[.pointer (some ⟨gy, 0, none⟩)] ?_
 with_reducible refine (down_n gy _ n w4 (HX.out.2.1.den.below H4.out.1) (den0 p)).mono ?_
 rintro e w5 ⟨rfl, rfl⟩
 refine ⟨_, rfl, ?_⟩
 refine hK.out _ _ trivial (fun hHeld => ?_)
 clear hK K
 refine zM 16 ?_
 refine zN 11 (some 18) 15 4095 (fun K hK => ?_)
 refine zG Try.func96 #[.pointer (some ⟨gz, 0, none⟩)] ?_
 with_reducible refine (down_n gz _ m w4 (HX.out.2.2.den.below H4.out.1) (den0 q)).mono ?_
 rintro e w5 ⟨rfl, rfl⟩
 refine ⟨_, rfl, ?_⟩
 refine hK.out _ _ trivial (fun hHeld => ?_)
 clear hK K
 refine zM 18 ?_
 refine zN 12 (some 19) 15 8191 (fun K hK => ?_)
 refine zG Try.func95 #[.pointer (some ⟨gy, 2, none⟩), .pointer (some ⟨gz, 2, none⟩)] ?_
 with_reducible refine (prod_n gy 2 gz 2 p.den q.den n m w4 (HX.out.2.1.den.below H4.out.1) (HX.out.2.2.den.below H4.out.1) (by omega)).mono ?_
 rintro e w5 ⟨g5, hg5, rfl, hb5, hN5⟩
 refine ⟨_, rfl, ?_⟩
 have H5 := Aside0.mk (And.intro (H4.out.1.trans (hb5.mono H4.out.1.size)) (And.intro (H4.out.2.below hb5) hN5))
 clear hb5 hN5
 refine hK.out _ _ trivial (fun hHeld => ?_)
 clear hK K
 refine zM 19 ?_
 refine zN 13 (some 20) 15 16383 (fun K hK => ?_)
 refine zG Try.func94 #[.pointer (some ⟨gx, 0, none⟩), .pointer (some ⟨g4, 0, none⟩), .pointer (some ⟨g5, 0, none⟩)] ?_
 with_reducible refine (setQ_n gx g4 0 g5 0 (p.num * q.num) ((p.den : Int) * (q.den : Int)) (n + m) B w5 (HX.out.1.1.below H5.out.1) (HX.out.1.2.below H5.out.1) H5.out.2.1 H5.out.2.2 (Int.mul_ne_zero (den0 p) (den0 q)) (by omega) hB).mono ?_
 rintro e w6 ⟨rfl, hb6, hQ6⟩
 refine ⟨_, rfl, ?_⟩
 rw [qq_mul] at hQ6
 have H6 := Aside0.mk (And.intro hb6 hQ6)
 clear hb6 hQ6
 refine hK.out _ _ trivial (fun hHeld => ?_)
 clear hK K
 refine zM 20 ?_
 refine zP 14 6 15 32767 ?_
 refine done_ (by kernel_rfl) ?_
 go_wp2_with fail
 go_ret
 exact ⟨rfl, (H5.out.1.mono (by omega)).trans H6.out.1, H6.out.2⟩
set_option maxHeartbeats 4000000 in
set_option maxRecDepth 100000 in
theorem cmpQ_n (gy gz : Nat) (p q : Rat) (n m : Nat) (w : World) (hy : RQ w gy p n) (hz : RQ w gz q m) (hl : n + m ≤ 400) :
  Calls Try.prog 81 #[.pointer (some ⟨gy, 0, none⟩), .pointer (some ⟨gz, 0, none⟩)] w (ValP w (.int .i64 (cmpQ p q))) := by
 have HX := Aside0.mk (And.intro hy hz)
 have HV := Aside0.mk (cmp_q p q)
 generalize cmpQ p q = V at *
 clear hy hz
 go_enter Try.func81, Try.ntmps81
 go_wp2_with fail
 have hb0 : Below w.heap.size w w.drew := below_drew' (Below.refl _ _)
 refine start_ (n := 14) (S := fun w' => True) (ds := []) (bs 14 0) (by kernel_rfl) rfl rfl trivial (fun hHeld => ?_)
 refine zP 0 5 14 1 ?_
 refine zP 1 6 14 3 ?_
 refine zP 2 7 14 7 ?_
 refine zP 3 8 14 15 ?_
 refine zP 6 11 14 79 ?_
 refine zP 7 12 14 207 ?_
 refine zP 8 13 14 463 ?_
 refine zP 9 14 14 975 ?_
 refine zN 4 (some 9) 14 991 (fun K hK => ?_)
 refine zG Try.func96 #[.pointer (some ⟨gz, 0, none⟩)] ?_
 with_reducible refine (down_n gz _ m w.drew (HX.out.2.den.below hb0) (den0 q)).mono ?_
 rintro e w4 ⟨rfl, rfl⟩
 refine ⟨_, rfl, ?_⟩
 refine hK.out _ _ trivial (fun hHeld => ?_)
 clear hK K
 refine zM 9 ?_
 refine zN 5 (some 10) 14 1023 (fun K hK => ?_)
 refine zG Try.func95 #[.pointer (some ⟨gy, 0, none⟩), .pointer (some ⟨gz, 2, none⟩)] ?_
 with_reducible refine (prod_n gy 0 gz 2 p.num q.den n m w.drew (HX.out.1.num.below hb0) (HX.out.2.den.below hb0) (by omega)).mono ?_
 rintro e w4 ⟨g4, hg4, rfl, hb4, hN4⟩
 refine ⟨_, rfl, ?_⟩
 have hb4' := below_drew' hb4
 have H4 := Aside0.mk (And.intro hb4' hN4)
 clear hb4 hN4 hb4' hg4
 refine hK.out _ _ trivial (fun hHeld => ?_)
 clear hK K
 refine zM 10 ?_
 refine zN 10 (some 15) 14 2047 (fun K hK => ?_)
 refine zG Try.func96 #[.pointer (some ⟨gy, 0, none⟩)] ?_
 with_reducible refine (down_n gy _ n w4 (HX.out.1.den.below H4.out.1) (den0 p)).mono ?_
 rintro e w5 ⟨rfl, rfl⟩
 refine ⟨_, rfl, ?_⟩
 refine hK.out _ _ trivial (fun hHeld => ?_)
 clear hK K
 refine zM 15 ?_
 refine zN 11 (some 16) 14 4095 (fun K hK => ?_)
 refine zG Try.func95 #[.pointer (some ⟨gz, 0, none⟩), .pointer (some ⟨gy, 2, none⟩)] ?_
 with_reducible refine (prod_n gz 0 gy 2 q.num p.den m n w4 (HX.out.2.num.below H4.out.1) (HX.out.1.den.below H4.out.1) (by omega)).mono ?_
 rintro e w5 ⟨g5, hg5, rfl, hb5, hN5⟩
 refine ⟨_, rfl, ?_⟩
 have H5 := Aside0.mk (And.intro (H4.out.1.trans (hb5.mono H4.out.1.size)) (And.intro (H4.out.2.below hb5) hN5))
 clear hb5 hN5
 refine hK.out _ _ trivial (fun hHeld => ?_)
 clear hK K
 refine zM 16 ?_
 refine zN 12 (some 17) 14 8191 (fun K hK => ?_)
 refine zG Try.func91 #[.pointer (some ⟨g4, 0, none⟩), .pointer (some ⟨g5, 0, none⟩)] ?_
 with_reducible refine (cmp_n g4 0 g5 0 (p.num * (q.den : Int)) (q.num * (p.den : Int)) (n + m) (m + n) w5 H5.out.2.1 H5.out.2.2 (by omega)).mono ?_
 rintro e w6 ⟨rfl, hb6⟩
 refine ⟨_, rfl, ?_⟩
 rw [HV.out]
 have H6 := Aside0.mk (H5.out.1.trans (hb6.mono H5.out.1.size))
 clear hb6
 refine hK.out _ _ trivial (fun hHeld => ?_)
 clear hK K
 refine zM 17 ?_
 refine zP 13 4 14 16383 ?_
 refine done_ (by kernel_rfl) ?_
 go_wp2_with fail
 go_ret
 exact ⟨rfl, H6.out⟩
end Go.Proofs.Ytknklchmpohjfaa.Rf
namespace Go.Proofs.Ytknklchmpohjfaa.Gr
open Go.RowKit Go Go.Proofs.YtknklchmpohjfaaW.PrintWords Go.Proofs.YtknklchmpohjfaaW.PrintLast Go.Proofs.YtknklchmpohjfaaW.PrintMore Go.Proofs.Ytknklchmpohjfaa.Mn Go.Proofs.Ytknklchmpohjfaa.Nd Go.Proofs.Ytknklchmpohjfaa.Z Go.Proofs.Ytknklchmpohjfaa.Nc Go.Proofs.Ytknklchmpohjfaa.Nb Go.Proofs.Ytknklchmpohjfaa.Qa Go.Proofs.Ytknklchmpohjfaa.Rf Go.Proofs.Ytknklchmpohjfaa.E Go.Proofs.Ytknklchmpohjfaa.Tk Go.Proofs.Ytknklchmpohjfaa.Tw Go.Proofs.Ytknklchmpohjfaa.Gt
set_option linter.unusedVariables false
set_option linter.unusedSimpArgs false
theorem cq_lt {p q : Rat} (h : p < q) : cmpQ p q = -1 := if_pos h
theorem cq_ge {p q : Rat} (h : ¬ p < q) : ∃ c : Int, 0 ≤ c ∧ cmpQ p q = c := ⟨_, by unfold cmpQ; rw [if_neg h]; split <;> decide, rfl⟩
theorem cq_gt {p q : Rat} (h : q < p) : cmpQ p q = 1 := by unfold cmpQ; rw [if_neg (by grind), if_pos h]
theorem cq_le {p q : Rat} (h : ¬ q < p) : ∃ c : Int, c ≤ 0 ∧ cmpQ p q = c := ⟨_, by unfold cmpQ; rw [if_neg h]; split <;> decide, rfl⟩
set_option maxHeartbeats 1000000 in
theorem signQ_n (gy : Nat) (q : Rat) (n : Nat) (w : World) (hy : RQ w gy q n) : Calls Try.prog 79 #[.pointer (some ⟨gy, 0, none⟩)] w (ValP w (.int .i64 (cmpI q.num 0))) := by
 have HX := Aside0.mk hy
 clear hy
 go_enter Try.func79, Try.ntmps79
 go_wp2_with fail
 refine (signI_n gy 0 q.num n w HX.out.num).mono ?_
 rintro e w2 ⟨rfl, hb2⟩
 go_wp2_with fail
 go_ret
 exact ⟨rfl, hb2⟩
set_option maxHeartbeats 1000000 in
theorem rat_n (a b : Int) (w : World) (a0 : -9223372036854775808 ≤ a) (a1 : a ≤ 9223372036854775807) (b0 : -9223372036854775808 ≤ b) (b1 : b ≤ 9223372036854775807) (hb : b ≠ 0) : Calls Try.prog 71 #[.int .i64 a, .int .i64 b] w (QP w (qq a b) 2) := by
 have HX := Aside0.mk (newRat_n a b w a0 a1 b0 b1 hb)
 clear a0 a1 b0 b1 hb
 go_enter Try.func71, Try.ntmps71
 go_wp2_with fail
 refine HX.out.mono ?_
 rintro e w2 ⟨g2, hg2, rfl, hb2, hN2⟩
 have H2 := Aside0.mk (And.intro hg2 (And.intro hb2 hN2))
 clear hg2 hb2 hN2
 go_wp2_with fail
 go_ret
 exact ⟨g2, H2.out.1, rfl, H2.out.2.1, H2.out.2.2⟩
set_option maxHeartbeats 1000000 in
theorem ratOf_n (a b : Int) (w : World) (a0 : -9223372036854775808 ≤ a) (a1 : a ≤ 9223372036854775807) (b0 : -9223372036854775808 ≤ b) (b1 : b ≤ 9223372036854775807) (hb : b ≠ 0) : Calls Try.prog 59 #[.agg #[.int .i64 a, .int .i64 b]] w (QP w (qq a b) 2) := by
 have hu := Try.underlying77
 have HX := Aside0.mk (fun W => rat_n a b W a0 a1 b0 b1 hb)
 clear a0 a1 b0 b1 hb
 go_enter Try.func59, Try.ntmps59
 have hb1 := Aside0.mk (below_alloc (Below.refl w.heap.size w) (.cells #[.int .i64 a, .int .i64 b] 77 (0, 0)))
 go_wp2_with fail
 refine (HX.out _).mono ?_
 rintro e w2 ⟨g2, hg2, rfl, hb2, hN2⟩
 have H2 := Aside0.mk (show w.heap.size ≤ g2 ∧ Below w.heap.size w w2 ∧ RQ w2 g2 (qq a b) 2 from ⟨Nat.le_trans hb1.out.size hg2, hb1.out.trans (hb2.mono hb1.out.size), hN2⟩)
 clear hg2 hb2 hN2
 go_wp2_with fail
 go_ret
 exact ⟨g2, H2.out.1, rfl, H2.out.2.1, H2.out.2.2⟩
def shL (Q : Rat) (all : List Sm) : List Sm → Int → Int → Int
 | [], _, best => best
 | s :: l, i, best => if Q < qq s.f1 1 ∨ ¬ Q < qq (s.f1 + s.f2) 1 then shL Q all l (i + 1) best else if best < 0 ∨ (rd_T51 all best).f1 ≤ s.f1 then shL Q all l (i + 1) i else shL Q all l (i + 1) best
theorem sh_drop {Q : Rat} {all l : List Sm} {i best : Int} (h0 : 0 ≤ i) (h1 : i < (l.length : Int)) : shL Q all (l.drop i.toNat) i best = if Q < qq (rd_T51 l i).f1 1 ∨ ¬ Q < qq ((rd_T51 l i).f1 + (rd_T51 l i).f2) 1 then shL Q all (l.drop (i + 1).toNat) (i + 1) best else if best < 0 ∨ (rd_T51 all best).f1 ≤ (rd_T51 l i).f1 then shL Q all (l.drop (i + 1).toNat) (i + 1) i else shL Q all (l.drop (i + 1).toNat) (i + 1) best := by
 obtain ⟨hn, hg⟩ := rd_get l h0 h1
 have hi : (i + 1).toNat = i.toNat + 1 := by omega
 rw [hi, hg, List.drop_eq_getElem_cons hn, shL]
def rngS (s : Sm) : Prop := (-1099511627776 ≤ s.f1 ∧ s.f1 ≤ 1099511627776) ∧ 0 ≤ s.f2 ∧ s.f2 ≤ 1099511627776
theorem rd_in {l : List Sm} {i : Int} (h0 : 0 ≤ i) (h1 : i < (l.length : Int)) : rd_T51 l i ∈ l := by
 obtain ⟨hn, hg⟩ := rd_get l h0 h1
 rw [hg]
 exact List.getElem_mem hn
section
variable (id kind : Int) (codec : ByteArray) (scale : Int) (A4 : Option Addr) (c4 : Nat) (setup : List Int) (lang name : ByteArray) (pr : Int) (A8 : Option Addr) (c8 : Nat) (edits : List Ed') (A9 : Option Addr) (c9 : Nat) (refs : List Rf) (A10 : Option Addr) (c10 : Nat) (samples : List Sm)
set_option maxHeartbeats 16000000 in
set_option maxRecDepth 100000 in
theorem shownAt_n (gx : Nat) (q : Rat) (n : Nat) (w : World) (hsc : 1 ≤ scale ∧ scale ≤ 1000000) (hr : Kd.C k51 w A10 samples.length samples) (hx : RQ w gx q n) (hn : n ≤ 100) (hs : ∀ s ∈ samples, rngS s) (hl : samples.length ≤ 1000) :
  Calls Try.prog 70 #[.agg #[.int .i64 id, .int .i64 kind, .string codec, .int .i64 scale, .slice A4 setup.length c4, .string lang, .string name, .int .i64 pr, .slice A8 edits.length c8, .slice A9 refs.length c9, .slice A10 samples.length c10], .pointer (some ⟨gx, 0, none⟩)] w (ValP w (.int .i64 (shL (q * qq scale 1) samples samples 0 (-1)))) := by
 have hu := Try.underlying40
 have hu2 := Try.underlying51
 have HR := Aside0.mk (And.intro hr (And.intro hx (And.intro hn (And.intro hs hl))))
 have HS := Aside0.mk hsc
 obtain ⟨Q, hQ⟩ : ∃ Q, Q = q * qq scale 1 := ⟨_, rfl⟩
 rw [← hQ]
 have HQQ := Aside0.mk hQ
 have HV := Aside0.mk (show shL Q samples samples 0 (-1) = shL Q samples (samples.drop (0 : Int).toNat) 0 (-1) by simp)
 generalize shL Q samples samples 0 (-1) = V at HV ⊢
 clear hr hx hn hs hl hsc hQ
 go_enter Try.func70, Try.ntmps70
 go_upto_region 1 with (first | ((with_reducible refine gate_dst (N := 2) rfl ?_); refine zB 2 40 #[.int .i64 id, .int .i64 kind, .string codec, .int .i64 scale, .slice A4 setup.length c4, .string lang, .string name, .int .i64 pr, .slice A8 edits.length c8, .slice A9 refs.length c9, .slice A10 samples.length c10] ?_; intro gb hg W0 hbox hb; have HG := Aside0.mk hg; have HT0 := Aside0.mk hbox; have HB0 := Aside0.mk hb; clear hbox hb hg))
 have HT1 := Aside0.mk (blk_alloc HT0.out (.cells #[.bool false, .slice none 0 0, .bool false, .slice none 0 0] 131 (0, 0)))
 have HB1 := Aside0.mk (below_alloc HB0.out (.cells #[.bool false, .slice none 0 0, .bool false, .slice none 0 0] 131 (0, 0)))
 have HA1 := Aside0.mk (And.intro (room_rat0 W0) (room_rat2 W0))
 have q3 : (W0.alloc (.cells #[.bool false, .slice none 0 0, .bool false, .slice none 0 0] 131 (0, 0))).cell? ⟨gb, 3, none⟩ = some (.int .i64 scale) := (blk_cell HT1.out 3).trans rfl
 have HZ := Aside0.mk HB0.out.size
 have HG9 := Aside0.mk (blk_lt HT0.out)
 go_wp2_with fail
 clear q3 HT0 HB0
 generalize World.alloc W0 _ = W1 at *
 generalize W0.heap.size = g9 at *
 refine (rat_n scale 1 W1 (by have := HS.out; omega) (by have := HS.out; omega) (by decide) (by decide) (by decide)).mono ?_
 rintro e w2 ⟨g2, hg2, rfl, hb2, hN2⟩
 have HT2 := Aside0.mk (blk_below HT1.out hb2)
 have HB2 := Aside0.mk (HB1.out.trans (hb2.mono HB1.out.size))
 have HA2 := Aside0.mk (And.intro (HA1.out.1.below hb2) (And.intro (HA1.out.2.below hb2) hN2))
 have HX2 := Aside0.mk (HR.out.2.1.below (HB1.out.trans (hb2.mono HB1.out.size)))
 clear hb2 hN2 hg2 HT1 HB1 HA1
 go_wp2_with fail
 refine (mulQ_n g9 gx g2 q (qq scale 1) n 2 g9 w2 HA2.out.1 HA2.out.2.1 HX2.out HA2.out.2.2 (by have := HR.out.2.2.1; omega) (Nat.le_refl _)).mono ?_
 rintro e w3 ⟨rfl, hb3, hN3⟩
 have HQ3 := Aside0.mk (show RQ w3 g9 Q (n + 2) from HQQ.out ▸ hN3)
 have HT3 := Aside0.mk (show w3.heap[gb]? = some (.cells #[.int .i64 id, .int .i64 kind, .string codec, .int .i64 scale, .slice A4 setup.length c4, .string lang, .string name, .int .i64 pr, .slice A8 edits.length c8, .slice A9 refs.length c9, .slice A10 samples.length c10] 40 (0, 0)) from (hb3.block gb HG9.out).trans HT2.out)
 have HB3 := Aside0.mk (HB2.out.trans (hb3.mono HZ.out))
 clear hb3 hN3 HT2 HB2 HA2 HX2
 have qa : w3.cell? ⟨gb, 10, none⟩ = some (.slice A10 samples.length c10) := (blk_cell HT3.out 10).trans rfl
 go_wp2_with fail
 clear qa
 go_loopg [6, 18] samples.length (fun kq v6 v18 w' => ∃ best i : Int, v6 = .int .i64 best ∧ v18 = .int .i64 i ∧ Aside0 (0 ≤ i ∧ i + kq = samples.length ∧ (-1 ≤ best ∧ best < i) ∧ V = shL Q samples (samples.drop i.toNat) i best) ∧ Aside0 (w'.heap[gb]? = some (.cells #[.int .i64 id, .int .i64 kind, .string codec, .int .i64 scale, .slice A4 setup.length c4, .string lang, .string name, .int .i64 pr, .slice A8 edits.length c8, .slice A9 refs.length c9, .slice A10 samples.length c10] 40 (0, 0))) ∧ Aside0 (RQ w' g9 Q (n + 2)) ∧ Aside0 (Below w.heap.size w w'))
 case atStart => exact ⟨-1, 0, rfl, rfl, ⟨by simp, by simp, by decide, HV.out⟩, HT3, HQ3, HB3⟩
 case round =>
  clear HT3 HQ3 HB3 HV
  obtain ⟨best, i, rfl, rfl, hi, HT, HQ, HB⟩ := hrel
  by_cases hlt : i < (samples.length : Int)
  ·have hlb : decide (i < (samples.length : Int)) = true := decide_eq_true hlt
   have p0 := hi.out.1
   obtain ⟨ad, D4, f4, D5, f5, hA, x0, x1, x2, x3, x4, x5, _⟩ := at_T51 (Kd.C_below HR.out.1 HB.out) i p0 hlt
   have HD := Aside0.mk (sh_drop (Q := Q) (all := samples) (best := best) p0 hlt)
   have HX := Aside0.mk (HR.out.2.2.2.1 _ (rd_in p0 hlt))
   obtain ⟨k1, rfl⟩ : ∃ m, gk = m + 1 := ⟨gk - 1, by have := hi.out; omega⟩
   have HY := Aside0.mk (And.intro (show wrap64 (i + 1) = i + 1 by have := HR.out.2.2.2.2; exact w64 (by omega) (by omega)) (show 0 ≤ i + 1 ∧ i + 1 + (k1 : Int) = samples.length by have := hi.out; omega))
   have HI := Aside0.mk hi.out.2.2
   have HN := Aside0.mk (And.intro p0 hlt)
   subst hA
   generalize rd_T51 samples i = X at *
   have HW := Aside0.mk (show wrap64 (X.f1 + X.f2) = X.f1 + X.f2 by have := HX.out; unfold rngS at this; exact w64 (by omega) (by omega))
   replace p0 := eq_true p0
   replace hlt := eq_true hlt
   clear hi
   go_upto_region 6 with fail
   have HT1 := Aside0.mk (blk_alloc HT.out (.cells #[.int .i64 X.f0, .int .i64 X.f1, .int .i64 X.f2, .bool X.f3, .slice D4 X.f4.length f4, .slice D5 X.f5.length f5] 51 (0, 0)))
   have HE1 := Aside0.mk (blk_new wr (.cells #[.int .i64 X.f0, .int .i64 X.f1, .int .i64 X.f2, .bool X.f3, .slice D4 X.f4.length f4, .slice D5 X.f5.length f5] 51 (0, 0)))
   have HB1 := Aside0.mk (below_alloc HB.out (.cells #[.int .i64 X.f0, .int .i64 X.f1, .int .i64 X.f2, .bool X.f3, .slice D4 X.f4.length f4, .slice D5 X.f5.length f5] 51 (0, 0)))
   have HQ1 := Aside0.mk (HQ.out.below (below_alloc (Below.refl wr.heap.size wr) (.cells #[.int .i64 X.f0, .int .i64 X.f1, .int .i64 X.f2, .bool X.f3, .slice D4 X.f4.length f4, .slice D5 X.f5.length f5] 51 (0, 0))))
   generalize World.alloc wr _ = W1 at *
   generalize wr.heap.size = gE at *
   clear x0 x1 x2 x3 x4 x5 HT HB HQ
   have x1 : W1.cell? ⟨gE, 1, none⟩ = some (.int .i64 X.f1) := (blk_cell HE1.out 1).trans rfl
   go_wp2_with fail
   refine (rat_n X.f1 1 W1 (by have := HX.out; unfold rngS at this; omega) (by have := HX.out; unfold rngS at this; omega) (by decide) (by decide) (by decide)).mono ?_
   rintro e w2 ⟨g2, hg2, rfl, hb2, hN2⟩
   have HT2 := Aside0.mk (blk_below HT1.out hb2)
   have HE2 := Aside0.mk (blk_below HE1.out hb2)
   have HB2 := Aside0.mk (HB1.out.trans (hb2.mono HB1.out.size))
   have HQ2 := Aside0.mk (And.intro (HQ1.out.below hb2) hN2)
   clear hb2 hN2 hg2 x1 HT1 HE1 HB1 HQ1
   go_wp2_with fail
   refine (cmpQ_n g2 g9 (qq X.f1 1) Q 2 (n + 2) w2 HQ2.out.2 HQ2.out.1 (by have := HR.out.2.2.1; omega)).mono ?_
   rintro e w3 ⟨rfl, hb3⟩
   have HT3 := Aside0.mk (blk_below HT2.out hb3)
   have HE3 := Aside0.mk (blk_below HE2.out hb3)
   have HB3 := Aside0.mk (HB2.out.trans (hb3.mono HB2.out.size))
   have HQ3 := Aside0.mk (HQ2.out.1.below hb3)
   clear hb3 HT2 HE2 HB2 HQ2
   by_cases c1 : Q < qq X.f1 1
   ·rw [cq_gt c1]
    have HV2 := Aside0.mk (show V = shL Q samples (samples.drop (i + 1).toNat) (i + 1) best by rw [HI.out.2, HD.out, if_pos (.inl c1)])
    clear c1 HD
    go_wp2_with fail
    go_roundg k1
    case measure => omega
    case rel => exact ⟨best, i + 1, rfl, by rw [HY.out.1], ⟨HY.out.2.1, HY.out.2.2, by have := HI.out; omega, HV2.out⟩, HT3, HQ3, HB3⟩
   ·obtain ⟨c, hc0, ec⟩ := cq_le c1
    rw [ec]
    have hcd : decide (c > 0) = false := decide_eq_false (by omega)
    have HC1 := Aside0.mk c1
    have x1 : w3.cell? ⟨gE, 1, none⟩ = some (.int .i64 X.f1) := (blk_cell HE3.out 1).trans rfl
    have x2 : w3.cell? ⟨gE, 2, none⟩ = some (.int .i64 X.f2) := (blk_cell HE3.out 2).trans rfl
    clear c1 ec hc0
    go_wp2_with fail
    rw [HW.out]
    refine (rat_n (X.f1 + X.f2) 1 w3 (by have := HX.out; unfold rngS at this; omega) (by have := HX.out; unfold rngS at this; omega) (by decide) (by decide) (by decide)).mono ?_
    rintro e w4 ⟨g4, hg4, rfl, hb4, hN4⟩
    have HT4 := Aside0.mk (blk_below HT3.out hb4)
    have HE4 := Aside0.mk (blk_below HE3.out hb4)
    have HB4 := Aside0.mk (HB3.out.trans (hb4.mono HB3.out.size))
    have HQ4 := Aside0.mk (And.intro (HQ3.out.below hb4) hN4)
    clear hb4 hN4 hg4 x1 x2 HT3 HE3 HB3 HQ3
    go_wp2_with fail
    refine (cmpQ_n g9 g4 Q (qq (X.f1 + X.f2) 1) (n + 2) 2 w4 HQ4.out.1 HQ4.out.2 (by have := HR.out.2.2.1; omega)).mono ?_
    rintro e w5 ⟨rfl, hb5⟩
    have HT5 := Aside0.mk (blk_below HT4.out hb5)
    have HE5 := Aside0.mk (blk_below HE4.out hb5)
    have HB5 := Aside0.mk (HB4.out.trans (hb5.mono HB4.out.size))
    have HQ5 := Aside0.mk (HQ4.out.1.below hb5)
    clear hb5 HT4 HE4 HB4 HQ4
    by_cases c2 : Q < qq (X.f1 + X.f2) 1
    ·rw [cq_lt c2]
     have HV2 := Aside0.mk (show V = if best < 0 ∨ (rd_T51 samples best).f1 ≤ X.f1 then shL Q samples (samples.drop (i + 1).toNat) (i + 1) i else shL Q samples (samples.drop (i + 1).toNat) (i + 1) best by
      rw [HI.out.2, HD.out, if_neg]
      rintro (h | h)
      ·exact HC1.out h
      ·exact h c2)
     clear c2 HD HC1 hcd
     by_cases hb : best < 0
     ·have hbd : decide (best < 0) = true := decide_eq_true hb
      have HV3 := Aside0.mk (show V = shL Q samples (samples.drop (i + 1).toNat) (i + 1) i by rw [HV2.out, if_pos (.inl hb)])
      clear hb HV2
      go_wp2_with fail
      repeat (go_quiet (fail); try go_wp2)
      go_roundg k1
      case measure => omega
      case rel => exact ⟨i, i + 1, rfl, by rw [HY.out.1], ⟨HY.out.2.1, HY.out.2.2, by have := HN.out; omega, HV3.out⟩, HT5, ⟨HQ5.out.below (pw_below_drewN (Below.refl _ _) _)⟩, ⟨pw_below_drewN HB5.out _⟩⟩
     ·have hbd : decide (best < 0) = false := decide_eq_false hb
      obtain ⟨ad2, F4, j4, F5, j5, hA2, y0, y1, y2, y3, y4, y5, _⟩ := at_T51 (Kd.C_below HR.out.1 HB5.out) best (show 0 ≤ best by omega) (by have := HI.out; have := HN.out; omega)
      obtain rfl := Option.some.inj hA2
      have b0 := eq_true (show 0 ≤ best by omega)
      have b1 := eq_true (show best < (samples.length : Int) by have := HI.out; have := HN.out; omega)
      have x1 : w5.cell? ⟨gE, 1, none⟩ = some (.int .i64 X.f1) := (blk_cell HE5.out 1).trans rfl
      have qa : w5.cell? ⟨gb, 10, none⟩ = some (.slice (some ad) samples.length c10) := (blk_cell HT5.out 10).trans rfl
      generalize rd_T51 samples best = Y at *
      by_cases hp : Y.f1 ≤ X.f1
      ·have hpd : decide (X.f1 ≥ Y.f1) = true := decide_eq_true hp
       have HV3 := Aside0.mk (show V = shL Q samples (samples.drop (i + 1).toNat) (i + 1) i by rw [HV2.out, if_pos (.inr hp)])
       clear hp hb HV2
       go_wp2_with fail
       repeat (go_quiet (fail); try go_wp2)
       go_roundg k1
       case measure => omega
       case rel => exact ⟨i, i + 1, rfl, by rw [HY.out.1], ⟨HY.out.2.1, HY.out.2.2, by have := HN.out; omega, HV3.out⟩, HT5, ⟨HQ5.out.below (pw_below_drewN (Below.refl _ _) _)⟩, ⟨pw_below_drewN HB5.out _⟩⟩
      ·have hpd : decide (X.f1 ≥ Y.f1) = false := decide_eq_false hp
       have HV3 := Aside0.mk (show V = shL Q samples (samples.drop (i + 1).toNat) (i + 1) best by rw [HV2.out, if_neg (by rintro (h | h) <;> omega)])
       clear hp hb HV2
       go_wp2_with fail
       repeat (go_quiet (fail); try go_wp2)
       go_roundg k1
       case measure => omega
       case rel => exact ⟨best, i + 1, rfl, by rw [HY.out.1], ⟨HY.out.2.1, HY.out.2.2, by have := HI.out; omega, HV3.out⟩, HT5, ⟨HQ5.out.below (pw_below_drewN (Below.refl _ _) _)⟩, ⟨pw_below_drewN HB5.out _⟩⟩
    ·obtain ⟨c', hc0, ec⟩ := cq_ge c2
     rw [ec]
     have hcd2 : decide (c' ≥ 0) = true := decide_eq_true (by omega)
     have HV2 := Aside0.mk (show V = shL Q samples (samples.drop (i + 1).toNat) (i + 1) best by rw [HI.out.2, HD.out, if_pos (.inr c2)])
     clear c2 ec hc0 HD
     go_wp2_with fail
     go_roundg k1
     case measure => omega
     case rel => exact ⟨best, i + 1, rfl, by rw [HY.out.1], ⟨HY.out.2.1, HY.out.2.2, by have := HI.out; omega, HV2.out⟩, HT5, HQ5, HB5⟩
  ·have hlb : decide (i < (samples.length : Int)) = false := decide_eq_false hlt
   have HV2 := Aside0.mk (show V = best by rw [hi.out.2.2.2, List.drop_of_length_le (by have := hi.out; omega)]; rfl)
   replace hlt := eq_false hlt
   clear hi
   go_wp2_with fail
   go_ret
   exact ⟨ret_i HV2.out.symm, HB.out⟩
end
end Go.Proofs.Ytknklchmpohjfaa.Gr
namespace Go.Proofs.Ytknklchmpohjfaa.Gd
open Go.RowKit Go Go.Proofs.YtknklchmpohjfaaW.PrintWords Go.Proofs.YtknklchmpohjfaaW.PrintLast Go.Proofs.YtknklchmpohjfaaW.PrintMore Go.Proofs.Ytknklchmpohjfaa.Mn Go.Proofs.Ytknklchmpohjfaa.Nd Go.Proofs.Ytknklchmpohjfaa.Z Go.Proofs.Ytknklchmpohjfaa.E Go.Proofs.Ytknklchmpohjfaa.Tk Go.Proofs.Ytknklchmpohjfaa.Tw Go.Proofs.Ytknklchmpohjfaa.Gs
set_option linter.unusedVariables false
set_option linter.unusedSimpArgs false
def findT : List Tr' → Int → Int → Int
 | [], _, _ => -1
 | T :: l, id, i => if T.f0 = id then i else findT l id (i + 1)
theorem find_drop {ts : List Tr'} {i id : Int} (h0 : 0 ≤ i) (h1 : i < (ts.length : Int)) : findT (ts.drop i.toNat) id i = if (rd_T40 ts i).f0 = id then i else findT (ts.drop (i + 1).toNat) id (i + 1) := by
 have hn : i.toNat < ts.length := by omega
 have hi : (i + 1).toNat = i.toNat + 1 := by omega
 have hg : rd_T40 ts i = ts[i.toNat] := by
  unfold rd_T40
  rw [List.getD_eq_getElem?_getD, List.getElem?_eq_getElem hn]
  rfl
 rw [hi, hg, List.drop_eq_getElem_cons hn, findT]
set_option maxHeartbeats 4000000 in
set_option maxRecDepth 100000 in
theorem same_n (gi : Nat) (id : Int) (v0 : Int) (v1 v2 v3 v4 v5 v6 v7 v8 v9 va : Value) (w : World) (hi : w.heap[gi]? = some (.cells #[.int .i64 id] 3 (0, 0))) :
  Calls Try.prog 40 #[.agg #[.int .i64 v0, v1, v2, v3, v4, v5, v6, v7, v8, v9, va], .pointer (some ⟨gi, 0, none⟩)] w (ValP w (.bool (decide (v0 = id)))) := by
 have hu := Try.underlying40
 have HI := Aside0.mk hi
 obtain ⟨B, hB⟩ : ∃ B : Bool, B = decide (v0 = id) := ⟨_, rfl⟩
 rw [← hB]
 have hb : (v0 == id) = B := by
  rw [hB, Bool.eq_iff_iff]
  simp
 clear hi hB
 go_enter Try.func40, Try.ntmps40
 go_upto_region 1 with (first | ((with_reducible refine gate_dst (N := 2) rfl ?_); refine zB 2 40 #[.int .i64 v0, v1, v2, v3, v4, v5, v6, v7, v8, v9, va] ?_; intro gb hg W0 hbox hb0; have HG := Aside0.mk hg; have HT := Aside0.mk hbox; have HB := Aside0.mk hb0; clear hbox hb0 hg))
 have q0 : W0.cell? ⟨gb, 0, none⟩ = some (.int .i64 v0) := (blk_cell HT.out 0).trans rfl
 have q1 : W0.cell? ⟨gi, 0, none⟩ = some (.int .i64 id) := (blk_cell (blk_below HI.out HB.out) 0).trans rfl
 go_wp2_with fail
 go_ret
 exact ⟨rfl, HB.out⟩
set_option maxHeartbeats 8000000 in
set_option maxRecDepth 100000 in
theorem index_n (gi : Nat) (id : Int) (ts : List Tr') (A2 : Option Addr) (c2 : Nat) (w : World) (hr : Kd.C k40 w A2 ts.length ts) (hi : w.heap[gi]? = some (.cells #[.int .i64 id] 3 (0, 0))) :
  Calls Try.prog 39 #[.slice A2 ts.length c2, .func (.func 40) #[] #[.pointer (some ⟨gi, 0, none⟩)]] w (ValP w (.int .i64 (findT ts id 0))) := by
 have hu := Try.underlying40
 have hE := enters_of Try.func40 (by kernel_rfl) rfl
 have HR := Aside0.mk hr
 have HL := Aside0.mk hr.2.1
 have HG := Aside0.mk hi
 have HV := Aside0.mk (show findT ts id 0 = findT (ts.drop (0 : Int).toNat) id 0 by simp)
 generalize findT ts id 0 = V at HV ⊢
 clear hr hi
 go_enter Try.func39, Try.ntmps39
 go_wp2_with fail
 go_loopg [8] ts.length (fun kq v8 w' => ∃ i : Int, v8 = .int .i64 i ∧ Aside0 (0 ≤ i ∧ i + kq = ts.length ∧ V = findT (ts.drop i.toNat) id i) ∧ Aside0 (Below w.heap.size w w'))
 case atStart => exact ⟨0, rfl, ⟨by simp, by simp, HV.out⟩, ⟨Below.refl _ _⟩⟩
 case round =>
  clear HV
  obtain ⟨i, rfl, hi, HB⟩ := hrel
  by_cases hlt : i < (ts.length : Int)
  ·have hlb : decide (i < (ts.length : Int)) = true := decide_eq_true hlt
   have p0 := hi.out.1
   obtain ⟨ad, A4, c4, A8, c8, A9, c9, A10, c10, hA, r0, r1, r2, r3, r4, r5, r6, r7, r8, r9, r10, _⟩ := at_T40 (Kd.C_below HR.out HB.out) i p0 hlt
   have HD := Aside0.mk (find_drop (id := id) p0 hlt)
   obtain ⟨k1, rfl⟩ : ∃ m, gk = m + 1 := ⟨gk - 1, by have := hi.out; omega⟩
   have HY := Aside0.mk (And.intro (show wrap64 (i + 1) = i + 1 by have := HL.out; exact w64 (by omega) (by omega)) (show 0 ≤ i + 1 ∧ i + 1 + (k1 : Int) = ts.length by have := hi.out; omega))
   have HI := Aside0.mk hi.out.2.2
   subst hA
   generalize rd_T40 ts i = T at *
   replace p0 := eq_true p0
   replace hlt := eq_true hlt
   clear hi
   go_wp2_with fail
   refine (same_n gi id T.f0 _ _ _ _ _ _ _ _ _ _ wr (blk_below HG.out HB.out)).mono ?_
   rintro e w2 ⟨rfl, hb2⟩
   have HB2 := Aside0.mk (HB.out.trans (hb2.mono HB.out.size))
   clear hb2 HB r0 r1 r2 r3 r4 r5 r6 r7 r8 r9 r10
   by_cases he : T.f0 = id
   ·have hE2 : decide (T.f0 = id) = true := decide_eq_true he
    have HV2 := Aside0.mk (show V = i by rw [HI.out, HD.out, if_pos he])
    rw [hE2]
    clear he
    go_wp2_with fail
    go_ret
    exact ⟨ret_i HV2.out.symm, HB2.out⟩
   ·have hE2 : decide (T.f0 = id) = false := decide_eq_false he
    have HV2 := Aside0.mk (show V = findT (ts.drop (i + 1).toNat) id (i + 1) by rw [HI.out, HD.out, if_neg he])
    rw [hE2]
    clear he
    go_wp2_with fail
    go_roundg k1
    case measure => omega
    case rel => exact ⟨i + 1, by rw [HY.out.1], ⟨HY.out.2.1, HY.out.2.2, HV2.out⟩, HB2⟩
  ·have hlb : decide (i < (ts.length : Int)) = false := decide_eq_false hlt
   have HV2 := Aside0.mk (show V = -1 by rw [hi.out.2.2, List.drop_of_length_le (by have := hi.out; omega)]; rfl)
   replace hlt := eq_false hlt
   clear hi
   go_wp2_with fail
   go_ret
   exact ⟨ret_i HV2.out.symm, HB.out⟩
set_option maxHeartbeats 4000000 in
set_option maxRecDepth 100000 in
theorem find_n (scale : Int) (title : ByteArray) (ts : List Tr') (A2 : Option Addr) (c2 : Nat) (m3 m4 m5 : Value) (id : Int) (w : World) (hr : Kd.C k40 w A2 ts.length ts) :
  Calls Try.prog 11 #[.agg #[.int .i64 scale, .string title, .slice A2 ts.length c2, m3, m4, m5], .int .i64 id] w (ValP w (.int .i64 (findT ts id 0))) := by
 have hu := Try.underlying27
 have hu3 := Try.underlying3
 have hE := enters_of Try.func39 (by kernel_rfl) rfl
 have HR := Aside0.mk hr
 clear hr
 go_enter Try.func11, Try.ntmps11
 go_upto_region 1 with (first | ((with_reducible refine gate_dst (N := 2) rfl ?_); refine zB 2 27 #[.int .i64 scale, .string title, .slice A2 ts.length c2, m3, m4, m5] ?_; intro gb hg W0 hbox hb0; have HG := Aside0.mk hg; have HT := Aside0.mk hbox; have HB := Aside0.mk hb0; clear hbox hb0 hg) | ((with_reducible refine gate_dst (N := 3) rfl ?_); refine zB 3 3 #[.int .i64 id] ?_; intro gi hgi W1 hbox hb0; have HT1 := Aside0.mk (blk_below HT.out hb0); have HI := Aside0.mk hbox; have HB1 := Aside0.mk (HB.out.trans (hb0.mono HB.out.size)); clear hbox hb0 hgi))
 have q2 : W1.cell? ⟨gb, 2, none⟩ = some (.slice A2 ts.length c2) := (blk_cell HT1.out 2).trans rfl
 go_wp2_with fail
 refine (index_n gi id ts A2 c2 W1 (Kd.C_below HR.out HB1.out) HI.out).mono ?_
 rintro e w2 ⟨rfl, hb2⟩
 have HB2 := Aside0.mk (HB1.out.trans (hb2.mono HB1.out.size))
 clear hb2 q2
 go_wp2_with fail
 go_ret
 exact ⟨rfl, HB2.out⟩
end Go.Proofs.Ytknklchmpohjfaa.Gd
namespace Go.Proofs.Ytknklchmpohjfaa.Ge
open Go.RowKit Go Go.Proofs.YtknklchmpohjfaaW.PrintWords Go.Proofs.YtknklchmpohjfaaW.PrintLast Go.Proofs.YtknklchmpohjfaaW.PrintMore Go.Proofs.Ytknklchmpohjfaa.Mn Go.Proofs.Ytknklchmpohjfaa.Nd Go.Proofs.Ytknklchmpohjfaa.Z Go.Proofs.Ytknklchmpohjfaa.E Go.Proofs.Ytknklchmpohjfaa.Tk Go.Proofs.Ytknklchmpohjfaa.Tw Go.Proofs.Ytknklchmpohjfaa.Gs Go.Proofs.Ytknklchmpohjfaa.Gd
set_option linter.unusedVariables false
set_option linter.unusedSimpArgs false
def scan (p : Tr' → Int → Option (Int × Int)) (E : Int × Int) : List Tr' → Int → Int × Int
 | [], _ => E
 | T :: l, i => match p T i with
  | some v => v
  | none => scan p E l (i + 1)
theorem scan_drop {p : Tr' → Int → Option (Int × Int)} {E : Int × Int} {ts : List Tr'} {i : Int} (h0 : 0 ≤ i) (h1 : i < (ts.length : Int)) : scan p E (ts.drop i.toNat) i = match p (rd_T40 ts i) i with
  | some v => v
  | none => scan p E (ts.drop (i + 1).toNat) (i + 1) := by
 have hn : i.toNat < ts.length := by omega
 have hi : (i + 1).toNat = i.toNat + 1 := by omega
 have hg : rd_T40 ts i = ts[i.toNat] := by
  unfold rd_T40
  rw [List.getD_eq_getElem?_getD, List.getElem?_eq_getElem hn]
  rfl
 rw [hi, hg, List.drop_eq_getElem_cons hn, scan]
theorem rd_mem {ts : List Tr'} {i : Int} (h0 : 0 ≤ i) (h1 : i < (ts.length : Int)) : rd_T40 ts i ∈ ts := by
 have hn : i.toNat < ts.length := by omega
 unfold rd_T40
 rw [List.getD_eq_getElem?_getD, List.getElem?_eq_getElem hn]
 exact List.getElem_mem hn
def chkR (T : Tr') : Int := chkT T.f0 T.f1 T.f2 T.f3 T.f4 T.f5 T.f6 T.f7 T.f8 T.f9 T.f10
def pA (T : Tr') (i : Int) : Option (Int × Int) := if chkR T = 0 then none else some (chkR T, i)
def pB (ts : List Tr') (T : Tr') (i : Int) : Option (Int × Int) := if findT ts T.f0 0 < i then some (30, i) else none
def badR (ts : List Tr') (id : Int) (l : List Rf) : Bool := l.any (fun r => decide (r.f1 = id) || decide (findT ts r.f1 0 < 0))
def pC (ts : List Tr') (T : Tr') (i : Int) : Option (Int × Int) := if badR ts T.f0 T.f9 = true then some (30, i) else none
def tl3 (e1 e2 by_ : Int) : Int × Int := if e1 = 0 then (if e2 = 0 then (if 524288 < by_ then (2, -1) else (0, -1)) else (e2, -1)) else (e1, -1)
def chkM (scale : Int) (title : ByteArray) (ts : List Tr') (n3 n4 n5 : Nat) (e1 e2 by_ : Int) : Int × Int :=
 if (inB scale 1 1000000 && namB title) = true then (if 8 < ts.length ∨ 4 < n3 ∨ 20 < n4 ∨ 6 < n5 then (2, -1) else scan pA (scan (pB ts) (scan (pC ts) (tl3 e1 e2 by_) ts 0) ts 0) ts 0) else (1, -1)
theorem bad_drop {ts : List Tr'} {id : Int} {l : List Rf} {i : Int} (h0 : 0 ≤ i) (h1 : i < (l.length : Int)) : badR ts id (l.drop i.toNat) = ((decide ((rd_T68 l i).f1 = id) || decide (findT ts (rd_T68 l i).f1 0 < 0)) || badR ts id (l.drop (i + 1).toNat)) := by
 have hn : i.toNat < l.length := by omega
 have hi : (i + 1).toNat = i.toNat + 1 := by omega
 have hg : rd_T68 l i = l[i.toNat] := by
  unfold rd_T68
  rw [List.getD_eq_getElem?_getD, List.getElem?_eq_getElem hn]
  rfl
 rw [hi, hg, List.drop_eq_getElem_cons hn]
 unfold badR
 rw [List.any_cons]
theorem mv_cells {w : World} {g : Nat} {t : TypeId} {a0 a1 a2 a3 a4 a5 : Value} (h : w.heap[g]? = some (.cells #[a0, a1, a2, a3, a4, a5] t (0, 0))) : w.cell? ⟨g, 0, none⟩ = some a0 ∧ w.cell? ⟨g, 1, none⟩ = some a1 ∧ w.cell? ⟨g, 2, none⟩ = some a2 ∧ w.cell? ⟨g, 3, none⟩ = some a3 ∧ w.cell? ⟨g, 4, none⟩ = some a4 ∧ w.cell? ⟨g, 5, none⟩ = some a5 :=
 ⟨(blk_cell h 0).trans rfl, (blk_cell h 1).trans rfl, (blk_cell h 2).trans rfl, (blk_cell h 3).trans rfl, (blk_cell h 4).trans rfl, (blk_cell h 5).trans rfl⟩
set_option maxHeartbeats 16000000 in
set_option maxRecDepth 100000 in
theorem check_n (scale : Int) (title : ByteArray) (ts : List Tr') (A2 : Option Addr) (c2 : Nat) (A3 : Option Addr) (n3 c3 : Nat) (A4 : Option Addr) (n4 c4 : Nat) (A5 : Option Addr) (n5 c5 : Nat) (e1 e2 by_ : Int) (w : World) (hr : Kd.C k40 w A2 ts.length ts) (hs : Bs title) (hok : ∀ T ∈ ts, okB T.f2 T.f5 T.f6 T.f9 = true)
  (h1 : ∀ W, Below w.heap.size w W → Calls Try.prog 32 #[.agg #[.int .i64 scale, .string title, .slice A2 ts.length c2, .slice A3 n3 c3, .slice A4 n4 c4, .slice A5 n5 c5]] W (ValP W (.int .i64 e1)))
  (h2 : ∀ W, Below w.heap.size w W → Calls Try.prog 33 #[.agg #[.int .i64 scale, .string title, .slice A2 ts.length c2, .slice A3 n3 c3, .slice A4 n4 c4, .slice A5 n5 c5]] W (ValP W (.int .i64 e2)))
  (h3 : ∀ W, Below w.heap.size w W → Calls Try.prog 13 #[.agg #[.int .i64 scale, .string title, .slice A2 ts.length c2, .slice A3 n3 c3, .slice A4 n4 c4, .slice A5 n5 c5]] W (ValP W (.int .i64 by_))) :
  Calls Try.prog 9 #[.agg #[.int .i64 scale, .string title, .slice A2 ts.length c2, .slice A3 n3 c3, .slice A4 n4 c4, .slice A5 n5 c5]] w (ValP w (.tuple #[.int .i64 (chkM scale title ts n3 n4 n5 e1 e2 by_).1, .int .i64 (chkM scale title ts n3 n4 n5 e1 e2 by_).2])) := by
 have hu := Try.underlying27
 have hu2 := Try.underlying40
 have hu3 := Try.underlying68
 have HR := Aside0.mk hr
 have HL := Aside0.mk hr.2.1
 have HS := Aside0.mk (And.intro hs hok)
 have HC := Aside0.mk (And.intro h1 (And.intro h2 h3))
 have HV := Aside0.mk (show chkM scale title ts n3 n4 n5 e1 e2 by_ = if (inB scale 1 1000000 && namB title) = true then (if 8 < ts.length ∨ 4 < n3 ∨ 20 < n4 ∨ 6 < n5 then (2, -1) else scan pA (scan (pB ts) (scan (pC ts) (tl3 e1 e2 by_) ts 0) ts 0) ts 0) else (1, -1) from rfl)
 generalize chkM scale title ts n3 n4 n5 e1 e2 by_ = V at *
 clear hr hs hok h1 h2 h3
 go_enter Try.func9, Try.ntmps9
 go_upto_region 1 with (first | ((with_reducible refine gate_dst (N := 1) rfl ?_); refine zB 1 27 #[.int .i64 scale, .string title, .slice A2 ts.length c2, .slice A3 n3 c3, .slice A4 n4 c4, .slice A5 n5 c5] ?_; intro gb hg W0 hbox hb; have HG := Aside0.mk hg; have HM0 := Aside0.mk hbox; have HB0 := Aside0.mk hb; clear hbox hb hg))
 obtain ⟨m0, m1, m2, m3, m4, m5⟩ := mv_cells HM0.out
 go_wp2_with fail
 refine (within_n scale 1 1000000 W0).mono ?_
 rintro e w2 ⟨rfl, hb2⟩
 have HM2 := Aside0.mk (blk_below HM0.out hb2)
 have HB2 := Aside0.mk (HB0.out.trans (hb2.mono HB0.out.size))
 clear hb2 m0 m1 m2 m3 m4 m5 HM0 HB0
 obtain ⟨m0, m1, m2, m3, m4, m5⟩ := mv_cells HM2.out
 obtain ⟨b1, hb1⟩ : ∃ b : Bool, b = inB scale 1 1000000 := ⟨_, rfl⟩
 rw [← hb1]
 cases b1 with
 | false =>
  have HV2 := Aside0.mk (show V = (1, -1) by rw [HV.out, ← hb1, Bool.false_and]; rfl)
  clear HV hb1
  go_wp2_with fail
  go_ret2
  exact ⟨by rw [HV2.out]; rfl, HB2.out⟩
 | true =>
 have HT1 := Aside0.mk hb1
 clear hb1
 go_wp2_with fail
 refine (name_n title HS.out.1 w2).mono ?_
 rintro e w3 ⟨rfl, hb3⟩
 have HM3 := Aside0.mk (blk_below HM2.out hb3)
 have HB3 := Aside0.mk (HB2.out.trans (hb3.mono HB2.out.size))
 clear hb3 m0 m1 m2 m3 m4 m5 HM2 HB2
 obtain ⟨m0, m1, m2, m3, m4, m5⟩ := mv_cells HM3.out
 obtain ⟨b1, hb1⟩ : ∃ b : Bool, b = namB title := ⟨_, rfl⟩
 rw [← hb1]
 cases b1 with
 | false =>
  have HV2 := Aside0.mk (show V = (1, -1) by rw [HV.out, ← hb1, Bool.and_false]; rfl)
  clear HV hb1
  go_wp2_with fail
  go_ret2
  exact ⟨by rw [HV2.out]; rfl, HB3.out⟩
 | true =>
 have HV3 := Aside0.mk (show V = if 8 < ts.length ∨ 4 < n3 ∨ 20 < n4 ∨ 6 < n5 then (2, -1) else scan pA (scan (pB ts) (scan (pC ts) (tl3 e1 e2 by_) ts 0) ts 0) ts 0 by rw [HV.out, ← HT1.out, ← hb1]; rfl)
 clear HV hb1
 by_cases l8 : 8 < ts.length
 ·have b8 : decide ((ts.length : Int) > 8) = true := decide_eq_true (by omega)
  have HV4 := Aside0.mk (show V = (2, -1) by rw [HV3.out, if_pos (.inl l8)])
  clear HV3 l8
  go_wp2_with fail
  go_ret2
  exact ⟨by rw [HV4.out]; rfl, HB3.out⟩
 have b8 : decide ((ts.length : Int) > 8) = false := decide_eq_false (by omega)
 by_cases l3 : 4 < n3
 ·have b3 : decide ((n3 : Int) > 4) = true := decide_eq_true (by omega)
  have HV4 := Aside0.mk (show V = (2, -1) by rw [HV3.out, if_pos (.inr (.inl l3))])
  clear HV3 l8 l3
  go_wp2_with fail
  go_ret2
  exact ⟨by rw [HV4.out]; rfl, HB3.out⟩
 have b3 : decide ((n3 : Int) > 4) = false := decide_eq_false (by omega)
 by_cases l4 : 20 < n4
 ·have b4 : decide ((n4 : Int) > 20) = true := decide_eq_true (by omega)
  have HV4 := Aside0.mk (show V = (2, -1) by rw [HV3.out, if_pos (.inr (.inr (.inl l4)))])
  clear HV3 l8 l3 l4
  go_wp2_with fail
  go_ret2
  exact ⟨by rw [HV4.out]; rfl, HB3.out⟩
 have b4 : decide ((n4 : Int) > 20) = false := decide_eq_false (by omega)
 by_cases l5 : 6 < n5
 ·have b5 : decide ((n5 : Int) > 6) = true := decide_eq_true (by omega)
  have HV4 := Aside0.mk (show V = (2, -1) by rw [HV3.out, if_pos (.inr (.inr (.inr l5)))])
  clear HV3 l8 l3 l4 l5
  go_wp2_with fail
  go_ret2
  exact ⟨by rw [HV4.out]; rfl, HB3.out⟩
 have b5 : decide ((n5 : Int) > 6) = false := decide_eq_false (by omega)
 have HV4 := Aside0.mk (show V = scan pA (scan (pB ts) (scan (pC ts) (tl3 e1 e2 by_) ts 0) ts 0) (ts.drop (0 : Int).toNat) 0 by rw [HV3.out, if_neg (by omega)]; simp)
 clear HV3 l8 l3 l4 l5
 go_wp2_with fail
 clear m0 m1 m2 m3 m4 m5 b8 b3 b4 b5
 go_loopg [50] ts.length (fun kq v50 w' => ∃ i : Int, v50 = .int .i64 i ∧ Aside0 (0 ≤ i ∧ i + kq = ts.length ∧ V = scan pA (scan (pB ts) (scan (pC ts) (tl3 e1 e2 by_) ts 0) ts 0) (ts.drop i.toNat) i) ∧ Aside0 (w'.heap[gb]? = some (.cells #[.int .i64 scale, .string title, .slice A2 ts.length c2, .slice A3 n3 c3, .slice A4 n4 c4, .slice A5 n5 c5] 27 (0, 0))) ∧ Aside0 (Below w.heap.size w w'))
 case atStart => exact ⟨0, rfl, ⟨by simp, by simp, HV4.out⟩, HM3, HB3⟩
 case round =>
  clear HM3 HB3 HV4
  obtain ⟨i, rfl, hi, HM, HB⟩ := hrel
  by_cases hlt : i < (ts.length : Int)
  ·skip
   have hlb : decide (i < (ts.length : Int)) = true := decide_eq_true hlt
   have p0 := hi.out.1
   obtain ⟨ad, B4, d4, B8, d8, B9, d9, B10, d10, hA, r0, r1, r2, r3, r4, r5, r6, r7, r8, r9, r10, t4, k4, t8, k8, t9, k9, t10, k10⟩ := at_T40 (Kd.C_below HR.out HB.out) i p0 hlt
   have HD := Aside0.mk (scan_drop (p := pA) (E := (scan (pB ts) (scan (pC ts) (tl3 e1 e2 by_) ts 0) ts 0)) p0 hlt)
   have HO := Aside0.mk (rd_mem p0 hlt)
   obtain ⟨k1, rfl⟩ : ∃ m, gk = m + 1 := ⟨gk - 1, by have := hi.out; omega⟩
   have HY := Aside0.mk (And.intro (show wrap64 (i + 1) = i + 1 by have := HL.out; exact w64 (by omega) (by omega)) (show 0 ≤ i + 1 ∧ i + 1 + (k1 : Int) = ts.length by have := hi.out; omega))
   have HI := Aside0.mk hi.out.2.2
   subst hA
   generalize rd_T40 ts i = T at *
   have HX0 := Aside0.mk (fun W (hb : Below wr.heap.size wr W) => check_track_n T.f0 T.f1 T.f2 T.f3 B4 d4 T.f4 T.f5 T.f6 T.f7 B8 d8 T.f8 B9 d9 T.f9 B10 d10 T.f10 (HS.out.2 T HO.out) t4 t8 t9 t10 W (Hd.below B4 T.f4 B8 T.f8 B9 T.f9 B10 T.f10 ⟨k4, k8, k9, k10⟩ hb))
   replace p0 := eq_true p0
   replace hlt := eq_true hlt
   clear hi t4 k4 t8 k8 t9 k9 t10 k10
   go_upto_region 8 with fail
   have HM1 := Aside0.mk (blk_alloc HM.out (.cells #[.int .i64 T.f0, .int .i64 T.f1, .string T.f2, .int .i64 T.f3, .slice B4 T.f4.length d4, .string T.f5, .string T.f6, .int .i64 T.f7, .slice B8 T.f8.length d8, .slice B9 T.f9.length d9, .slice B10 T.f10.length d10] 40 (0, 0)))
   have HE1 := Aside0.mk (blk_new wr (.cells #[.int .i64 T.f0, .int .i64 T.f1, .string T.f2, .int .i64 T.f3, .slice B4 T.f4.length d4, .string T.f5, .string T.f6, .int .i64 T.f7, .slice B8 T.f8.length d8, .slice B9 T.f9.length d9, .slice B10 T.f10.length d10] 40 (0, 0)))
   have HB1 := Aside0.mk (below_alloc HB.out (.cells #[.int .i64 T.f0, .int .i64 T.f1, .string T.f2, .int .i64 T.f3, .slice B4 T.f4.length d4, .string T.f5, .string T.f6, .int .i64 T.f7, .slice B8 T.f8.length d8, .slice B9 T.f9.length d9, .slice B10 T.f10.length d10] 40 (0, 0)))
   have hbn := below_alloc (Below.refl wr.heap.size wr) (.cells #[.int .i64 T.f0, .int .i64 T.f1, .string T.f2, .int .i64 T.f3, .slice B4 T.f4.length d4, .string T.f5, .string T.f6, .int .i64 T.f7, .slice B8 T.f8.length d8, .slice B9 T.f9.length d9, .slice B10 T.f10.length d10] 40 (0, 0))
   have HX := Aside0.mk (HX0.out _ hbn)
   clear HX0
   generalize World.alloc wr _ = W1 at *
   generalize wr.heap.size = gE at *
   clear r0 r1 r2 r3 r4 r5 r6 r7 r8 r9 r10 HM HB hbn
   obtain ⟨q0, q1, q2, q3, q4, q5, q6, q7, q8, q9, qa⟩ := ten_cells HE1.out
   go_wp2_with fail
   refine (HX.out.mono ?_)
   rintro e w4 ⟨rfl, hb4⟩
   have HM4 := Aside0.mk (blk_below HM1.out hb4)
   have HB4 := Aside0.mk (HB1.out.trans (hb4.mono HB1.out.size))
   clear hb4 q0 q1 q2 q3 q4 q5 q6 q7 q8 q9 qa HE1 HM1 HB1 HX
   by_cases hz : chkR T = 0
   ·have HV2 := Aside0.mk (show V = scan pA (scan (pB ts) (scan (pC ts) (tl3 e1 e2 by_) ts 0) ts 0) (ts.drop (i + 1).toNat) (i + 1) by rw [HI.out, HD.out]; simp only [pA, if_pos hz])
    rw [show chkT T.f0 T.f1 T.f2 T.f3 T.f4 T.f5 T.f6 T.f7 T.f8 T.f9 T.f10 = 0 from hz]
    clear hz HI HD
    go_wp2_with fail
    go_roundg k1
    case measure => omega
    case rel => exact ⟨i + 1, by rw [HY.out.1], ⟨HY.out.2.1, HY.out.2.2, HV2.out⟩, HM4, HB4⟩
   ·have HV2 := Aside0.mk (show V = (chkR T, i) by rw [HI.out, HD.out]; simp only [pA, if_neg hz])
    have hz2 : ¬ chkT T.f0 T.f1 T.f2 T.f3 T.f4 T.f5 T.f6 T.f7 T.f8 T.f9 T.f10 = 0 := hz
    have HZ := Aside0.mk (show chkR T = chkT T.f0 T.f1 T.f2 T.f3 T.f4 T.f5 T.f6 T.f7 T.f8 T.f9 T.f10 from rfl)
    generalize chkT T.f0 T.f1 T.f2 T.f3 T.f4 T.f5 T.f6 T.f7 T.f8 T.f9 T.f10 = Z at *
    have hz3 : (Z != 0) = true := by simpa using hz2
    clear hz hz2 HI HD
    go_wp2_with fail
    go_ret2
    exact ⟨by rw [HV2.out, HZ.out]; rfl, HB4.out⟩
  ·have hlb : decide (i < (ts.length : Int)) = false := decide_eq_false hlt
   have HV4 := Aside0.mk (show V = scan (pB ts) (scan (pC ts) (tl3 e1 e2 by_) ts 0) (ts.drop (0 : Int).toNat) 0 by
    rw [hi.out.2.2, List.drop_of_length_le (by have := hi.out; omega)]
    rfl)
   obtain ⟨m0, m1, m2, m3, m4, m5⟩ := mv_cells HM.out
   replace hlt := eq_false hlt
   clear hi
   go_wp2_with fail
   clear m0 m1 m2 m3 m4 m5
   go_loopg [65] ts.length (fun kq v65 w' => ∃ i : Int, v65 = .int .i64 i ∧ Aside0 (0 ≤ i ∧ i + kq = ts.length ∧ V = scan (pB ts) (scan (pC ts) (tl3 e1 e2 by_) ts 0) (ts.drop i.toNat) i) ∧ Aside0 (w'.heap[gb]? = some (.cells #[.int .i64 scale, .string title, .slice A2 ts.length c2, .slice A3 n3 c3, .slice A4 n4 c4, .slice A5 n5 c5] 27 (0, 0))) ∧ Aside0 (Below w.heap.size w w'))
   case atStart => exact ⟨0, rfl, ⟨by simp, by simp, HV4.out⟩, HM, HB⟩
   case round =>
    clear HM HB HV4
    obtain ⟨i, rfl, hi, HM, HB⟩ := hrel
    by_cases hlt : i < (ts.length : Int)
    ·skip
     have hlb : decide (i < (ts.length : Int)) = true := decide_eq_true hlt
     have p0 := hi.out.1
     obtain ⟨ad, B4, d4, B8, d8, B9, d9, B10, d10, hA, r0, r1, r2, r3, r4, r5, r6, r7, r8, r9, r10, t4, k4, t8, k8, t9, k9, t10, k10⟩ := at_T40 (Kd.C_below HR.out HB.out) i p0 hlt
     have HD := Aside0.mk (scan_drop (p := (pB ts)) (E := (scan (pC ts) (tl3 e1 e2 by_) ts 0)) p0 hlt)
     obtain ⟨k1, rfl⟩ : ∃ m, gk = m + 1 := ⟨gk - 1, by have := hi.out; omega⟩
     have HY := Aside0.mk (And.intro (show wrap64 (i + 1) = i + 1 by have := HL.out; exact w64 (by omega) (by omega)) (show 0 ≤ i + 1 ∧ i + 1 + (k1 : Int) = ts.length by have := hi.out; omega))
     have HI := Aside0.mk hi.out.2.2
     subst hA
     generalize rd_T40 ts i = T at *
     replace p0 := eq_true p0
     replace hlt := eq_true hlt
     clear hi t4 k4 t8 k8 t9 k9 t10 k10
     obtain ⟨m0, m1, m2, m3, m4, m5⟩ := mv_cells HM.out
     go_upto_region 15 with fail
     clear m0 m1 m2 m3 m4 m5
     have HM1 := Aside0.mk (blk_alloc HM.out (.cells #[.int .i64 T.f0, .int .i64 T.f1, .string T.f2, .int .i64 T.f3, .slice B4 T.f4.length d4, .string T.f5, .string T.f6, .int .i64 T.f7, .slice B8 T.f8.length d8, .slice B9 T.f9.length d9, .slice B10 T.f10.length d10] 40 (0, 0)))
     have HE1 := Aside0.mk (blk_new wr (.cells #[.int .i64 T.f0, .int .i64 T.f1, .string T.f2, .int .i64 T.f3, .slice B4 T.f4.length d4, .string T.f5, .string T.f6, .int .i64 T.f7, .slice B8 T.f8.length d8, .slice B9 T.f9.length d9, .slice B10 T.f10.length d10] 40 (0, 0)))
     have HB1 := Aside0.mk (below_alloc HB.out (.cells #[.int .i64 T.f0, .int .i64 T.f1, .string T.f2, .int .i64 T.f3, .slice B4 T.f4.length d4, .string T.f5, .string T.f6, .int .i64 T.f7, .slice B8 T.f8.length d8, .slice B9 T.f9.length d9, .slice B10 T.f10.length d10] 40 (0, 0)))
     have hbn := below_alloc (Below.refl wr.heap.size wr) (.cells #[.int .i64 T.f0, .int .i64 T.f1, .string T.f2, .int .i64 T.f3, .slice B4 T.f4.length d4, .string T.f5, .string T.f6, .int .i64 T.f7, .slice B8 T.f8.length d8, .slice B9 T.f9.length d9, .slice B10 T.f10.length d10] 40 (0, 0))
     generalize World.alloc wr _ = W1 at *
     generalize wr.heap.size = gE at *
     clear r0 r1 r2 r3 r4 r5 r6 r7 r8 r9 r10 HM HB hbn
     have q0 : W1.cell? ⟨gE, 0, none⟩ = some (.int .i64 T.f0) := (blk_cell HE1.out 0).trans rfl
     obtain ⟨m0, m1, m2, m3, m4, m5⟩ := mv_cells HM1.out
     go_wp2_with fail
     refine (find_n scale title ts _ c2 _ _ _ T.f0 W1 (Kd.C_below HR.out HB1.out)).mono ?_
     rintro e w4 ⟨rfl, hb4⟩
     have HM4 := Aside0.mk (blk_below HM1.out hb4)
     have HB4 := Aside0.mk (HB1.out.trans (hb4.mono HB1.out.size))
     clear hb4 q0 m0 m1 m2 m3 m4 m5 HE1 HM1 HB1
     by_cases hz : findT ts T.f0 0 < i
     ·have hz2 : decide (findT ts T.f0 0 < i) = true := decide_eq_true hz
      have HV2 := Aside0.mk (show V = (30, i) by rw [HI.out, HD.out]; simp only [pB, if_pos hz])
      generalize findT ts T.f0 0 = Z at *
      clear hz HI HD
      go_wp2_with fail
      go_ret2
      exact ⟨by rw [HV2.out]; rfl, HB4.out⟩
     ·have hz2 : decide (findT ts T.f0 0 < i) = false := decide_eq_false hz
      have HV2 := Aside0.mk (show V = scan (pB ts) (scan (pC ts) (tl3 e1 e2 by_) ts 0) (ts.drop (i + 1).toNat) (i + 1) by rw [HI.out, HD.out]; simp only [pB, if_neg hz])
      generalize findT ts T.f0 0 = Z at *
      clear hz HI HD
      go_wp2_with fail
      go_roundg k1
      case measure => omega
      case rel => exact ⟨i + 1, by rw [HY.out.1], ⟨HY.out.2.1, HY.out.2.2, HV2.out⟩, HM4, HB4⟩
    ·have hlb : decide (i < (ts.length : Int)) = false := decide_eq_false hlt
     have HV4 := Aside0.mk (show V = scan (pC ts) (tl3 e1 e2 by_) (ts.drop (0 : Int).toNat) 0 by
      rw [hi.out.2.2, List.drop_of_length_le (by have := hi.out; omega)]
      rfl)
     obtain ⟨m0, m1, m2, m3, m4, m5⟩ := mv_cells HM.out
     replace hlt := eq_false hlt
     clear hi
     go_wp2_with fail
     clear m0 m1 m2 m3 m4 m5
     go_loopg [81] ts.length (fun kq v81 w' => ∃ i : Int, v81 = .int .i64 i ∧ Aside0 (0 ≤ i ∧ i + kq = ts.length ∧ V = scan (pC ts) (tl3 e1 e2 by_) (ts.drop i.toNat) i) ∧ Aside0 (w'.heap[gb]? = some (.cells #[.int .i64 scale, .string title, .slice A2 ts.length c2, .slice A3 n3 c3, .slice A4 n4 c4, .slice A5 n5 c5] 27 (0, 0))) ∧ Aside0 (Below w.heap.size w w'))
     case atStart => exact ⟨0, rfl, ⟨by simp, by simp, HV4.out⟩, HM, HB⟩
     case round =>
      clear HM HB HV4
      obtain ⟨i, rfl, hi, HM, HB⟩ := hrel
      by_cases hlt : i < (ts.length : Int)
      ·skip
       have hlb : decide (i < (ts.length : Int)) = true := decide_eq_true hlt
       have p0 := hi.out.1
       obtain ⟨ad, B4, d4, B8, d8, B9, d9, B10, d10, hA, r0, r1, r2, r3, r4, r5, r6, r7, r8, r9, r10, t4, k4, t8, k8, t9, k9, t10, k10⟩ := at_T40 (Kd.C_below HR.out HB.out) i p0 hlt
       have HD := Aside0.mk (scan_drop (p := (pC ts)) (E := (tl3 e1 e2 by_)) p0 hlt)
       obtain ⟨k1, rfl⟩ : ∃ m, gk = m + 1 := ⟨gk - 1, by have := hi.out; omega⟩
       have HY := Aside0.mk (And.intro (show wrap64 (i + 1) = i + 1 by have := HL.out; exact w64 (by omega) (by omega)) (show 0 ≤ i + 1 ∧ i + 1 + (k1 : Int) = ts.length by have := hi.out; omega))
       have HI := Aside0.mk hi.out.2.2
       subst hA
       generalize rd_T40 ts i = T at *
       have HK0 := Aside0.mk k9
       replace p0 := eq_true p0
       replace hlt := eq_true hlt
       clear hi t4 k4 t8 k8 t9 k9 t10 k10
       obtain ⟨m0, m1, m2, m3, m4, m5⟩ := mv_cells HM.out
       go_upto_region 21 with fail
       clear m0 m1 m2 m3 m4 m5
       have HM1 := Aside0.mk (blk_alloc HM.out (.cells #[.int .i64 T.f0, .int .i64 T.f1, .string T.f2, .int .i64 T.f3, .slice B4 T.f4.length d4, .string T.f5, .string T.f6, .int .i64 T.f7, .slice B8 T.f8.length d8, .slice B9 T.f9.length d9, .slice B10 T.f10.length d10] 40 (0, 0)))
       have HE1 := Aside0.mk (blk_new wr (.cells #[.int .i64 T.f0, .int .i64 T.f1, .string T.f2, .int .i64 T.f3, .slice B4 T.f4.length d4, .string T.f5, .string T.f6, .int .i64 T.f7, .slice B8 T.f8.length d8, .slice B9 T.f9.length d9, .slice B10 T.f10.length d10] 40 (0, 0)))
       have HB1 := Aside0.mk (below_alloc HB.out (.cells #[.int .i64 T.f0, .int .i64 T.f1, .string T.f2, .int .i64 T.f3, .slice B4 T.f4.length d4, .string T.f5, .string T.f6, .int .i64 T.f7, .slice B8 T.f8.length d8, .slice B9 T.f9.length d9, .slice B10 T.f10.length d10] 40 (0, 0)))
       have hbn := below_alloc (Below.refl wr.heap.size wr) (.cells #[.int .i64 T.f0, .int .i64 T.f1, .string T.f2, .int .i64 T.f3, .slice B4 T.f4.length d4, .string T.f5, .string T.f6, .int .i64 T.f7, .slice B8 T.f8.length d8, .slice B9 T.f9.length d9, .slice B10 T.f10.length d10] 40 (0, 0))
       have HK := Aside0.mk (Kd.C_below HK0.out hbn)
       clear HK0
       generalize World.alloc wr _ = W1 at *
       generalize wr.heap.size = gE at *
       clear r0 r1 r2 r3 r4 r5 r6 r7 r8 r9 r10 HM HB hbn
       have q9 : W1.cell? ⟨gE, 9, none⟩ = some (.slice B9 T.f9.length d9) := (blk_cell HE1.out 9).trans rfl
       go_wp2_with fail
       clear q9
       go_loopg [89] T.f9.length (fun kq v89 w' => ∃ j : Int, v89 = .int .i64 j ∧ Aside0 (0 ≤ j ∧ j + kq = T.f9.length ∧ badR ts T.f0 T.f9 = badR ts T.f0 (T.f9.drop j.toNat)) ∧ Aside0 (w'.heap[gb]? = some (.cells #[.int .i64 scale, .string title, .slice (some ad) ts.length c2, .slice A3 n3 c3, .slice A4 n4 c4, .slice A5 n5 c5] 27 (0, 0))) ∧ Aside0 (w'.heap[gE]? = some (.cells #[.int .i64 T.f0, .int .i64 T.f1, .string T.f2, .int .i64 T.f3, .slice B4 T.f4.length d4, .string T.f5, .string T.f6, .int .i64 T.f7, .slice B8 T.f8.length d8, .slice B9 T.f9.length d9, .slice B10 T.f10.length d10] 40 (0, 0))) ∧ Aside0 (k68.C w' B9 T.f9.length T.f9) ∧ Aside0 (Below w.heap.size w w'))
       case atStart => exact ⟨0, rfl, ⟨by simp, by simp, by simp⟩, HM1, HE1, HK, HB1⟩
       case round =>
        clear HM1 HE1 HK HB1
        obtain ⟨j, rfl, hj, HM, HE, HK, HB⟩ := hrel
        by_cases hlj : j < (T.f9.length : Int)
        ·have hlb2 : decide (j < (T.f9.length : Int)) = true := decide_eq_true hlj
         have g0 := hj.out.1
         obtain ⟨ad2, hA2, x0, x1⟩ := at_T68 HK.out j g0 hlj
         have HD2 := Aside0.mk (bad_drop (ts := ts) (id := T.f0) g0 hlj)
         obtain ⟨k2, rfl⟩ : ∃ m, gk = m + 1 := ⟨gk - 1, by have := hj.out; omega⟩
         have HY2 := Aside0.mk (And.intro (show wrap64 (j + 1) = j + 1 by have := HK.out.2.1; exact w64 (by omega) (by omega)) (show 0 ≤ j + 1 ∧ j + 1 + (k2 : Int) = T.f9.length by have := hj.out; omega))
         have HJ := Aside0.mk hj.out.2.2
         subst hA2
         generalize rd_T68 T.f9 j = X at *
         replace g0 := eq_true g0
         replace hlj := eq_true hlj
         clear hj
         go_upto_region 24 with fail
         have HM1 := Aside0.mk (blk_alloc HM.out (.cells #[.string X.f0, .int .i64 X.f1] 68 (0, 0)))
         have HE1 := Aside0.mk (blk_alloc HE.out (.cells #[.string X.f0, .int .i64 X.f1] 68 (0, 0)))
         have HX1 := Aside0.mk (blk_new wr (.cells #[.string X.f0, .int .i64 X.f1] 68 (0, 0)))
         have HK1 := Aside0.mk (Kd.C_below HK.out (below_alloc (Below.refl wr.heap.size wr) (.cells #[.string X.f0, .int .i64 X.f1] 68 (0, 0))))
         have HB1 := Aside0.mk (below_alloc HB.out (.cells #[.string X.f0, .int .i64 X.f1] 68 (0, 0)))
         generalize World.alloc wr _ = W1 at *
         generalize wr.heap.size = gX at *
         clear x0 x1 HM HE HK HB
         have q0 : W1.cell? ⟨gE, 0, none⟩ = some (.int .i64 T.f0) := (blk_cell HE1.out 0).trans rfl
         have x1 : W1.cell? ⟨gX, 1, none⟩ = some (.int .i64 X.f1) := (blk_cell HX1.out 1).trans rfl
         obtain ⟨m0, m1, m2, m3, m4, m5⟩ := mv_cells HM1.out
         by_cases hq : X.f1 = T.f0
         ·have hq2 : (X.f1 == T.f0) = true := by rw [hq]; exact beq_self_eq_true _
          have HV2 := Aside0.mk (show V = (30, i) by rw [HI.out, HD.out]; simp only [pC, if_pos (show badR ts T.f0 T.f9 = true by rw [HJ.out, HD2.out, decide_eq_true hq, Bool.true_or, Bool.true_or])])
          clear hq HI HD HJ HD2
          go_wp2_with fail
          go_ret2
          exact ⟨by rw [HV2.out]; rfl, HB1.out⟩
         ·have hq2 : (X.f1 == T.f0) = false := by simpa using hq
          have HQ := Aside0.mk hq
          clear hq
          go_wp2_with fail
          refine (find_n scale title ts _ c2 _ _ _ X.f1 W1 (Kd.C_below HR.out HB1.out)).mono ?_
          rintro e w4 ⟨rfl, hb4⟩
          have HM4 := Aside0.mk (blk_below HM1.out hb4)
          have HE4 := Aside0.mk (blk_below HE1.out hb4)
          have HK4 := Aside0.mk (Kd.C_below HK1.out hb4)
          have HB4 := Aside0.mk (HB1.out.trans (hb4.mono HB1.out.size))
          clear hb4 q0 x1 m0 m1 m2 m3 m4 m5 HE1 HM1 HB1 HK1 HX1
          by_cases hz : findT ts X.f1 0 < 0
          ·have hz2 : decide (findT ts X.f1 0 < 0) = true := decide_eq_true hz
           have HV2 := Aside0.mk (show V = (30, i) by rw [HI.out, HD.out]; simp only [pC, if_pos (show badR ts T.f0 T.f9 = true by rw [HJ.out, HD2.out, decide_eq_true hz, Bool.or_true, Bool.true_or])])
           generalize findT ts X.f1 0 = Z at *
           clear hz HI HD HJ HD2
           go_wp2_with fail
           go_ret2
           exact ⟨by rw [HV2.out]; rfl, HB4.out⟩
          ·have hz2 : decide (findT ts X.f1 0 < 0) = false := decide_eq_false hz
           have HJ2 := Aside0.mk (show badR ts T.f0 T.f9 = badR ts T.f0 (T.f9.drop (j + 1).toNat) by rw [HJ.out, HD2.out, decide_eq_false HQ.out, decide_eq_false hz, Bool.false_or, Bool.false_or])
           generalize findT ts X.f1 0 = Z at *
           clear hz HJ HD2
           go_wp2_with fail
           go_roundg k2
           case measure => omega
           case rel => exact ⟨j + 1, by rw [HY2.out.1], ⟨HY2.out.2.1, HY2.out.2.2, HJ2.out⟩, HM4, HE4, HK4, HB4⟩
        ·have hlb2 : decide (j < (T.f9.length : Int)) = false := decide_eq_false hlj
         have HJ := Aside0.mk (show badR ts T.f0 T.f9 = false by
          rw [hj.out.2.2, List.drop_of_length_le (by have := hj.out; omega)]
          rfl)
         have HV2 := Aside0.mk (show V = scan (pC ts) (tl3 e1 e2 by_) (ts.drop (i + 1).toNat) (i + 1) by rw [HI.out, HD.out]; simp only [pC, HJ.out, Bool.false_eq_true, if_false])
         replace hlj := eq_false hlj
         clear hj HJ HI HD
         go_wp2_with fail
         go_roundg k1
         case measure => omega
         case rel => exact ⟨i + 1, by rw [HY.out.1], ⟨HY.out.2.1, HY.out.2.2, HV2.out⟩, HM, HB⟩
      ·have hlb : decide (i < (ts.length : Int)) = false := decide_eq_false hlt
       have HV4 := Aside0.mk (show V = tl3 e1 e2 by_ by
        rw [hi.out.2.2, List.drop_of_length_le (by have := hi.out; omega)]
        rfl)
       have HX := Aside0.mk (And.intro (HC.out.1 wr HB.out) HC.out.2)
       obtain ⟨m0, m1, m2, m3, m4, m5⟩ := mv_cells HM.out
       replace hlt := eq_false hlt
       clear hi HC
       go_wp2_with fail
       refine HX.out.1.mono ?_
       rintro e w4 ⟨rfl, hb4⟩
       have HM4 := Aside0.mk (blk_below HM.out hb4)
       have HB4 := Aside0.mk (HB.out.trans (hb4.mono HB.out.size))
       have HX4 := Aside0.mk (And.intro (HX.out.2.1 w4 HB4.out) HX.out.2.2)
       clear hb4 m0 m1 m2 m3 m4 m5 HM HB HX
       obtain ⟨m0, m1, m2, m3, m4, m5⟩ := mv_cells HM4.out
       by_cases z1 : e1 = 0
       ·have z1b : (e1 != 0) = false := by rw [z1]; rfl
        have HV5 := Aside0.mk (show V = if e2 = 0 then (if 524288 < by_ then (2, -1) else (0, -1)) else (e2, -1) by rw [HV4.out, tl3, if_pos z1])
        clear z1 HV4
        go_wp2_with fail
        refine HX4.out.1.mono ?_
        rintro e w5 ⟨rfl, hb5⟩
        have HM5 := Aside0.mk (blk_below HM4.out hb5)
        have HB5 := Aside0.mk (HB4.out.trans (hb5.mono HB4.out.size))
        have HX5 := Aside0.mk (HX4.out.2 w5 HB5.out)
        clear hb5 m0 m1 m2 m3 m4 m5 HM4 HB4 HX4
        obtain ⟨m0, m1, m2, m3, m4, m5⟩ := mv_cells HM5.out
        by_cases z2 : e2 = 0
        ·have z2b : (e2 != 0) = false := by rw [z2]; rfl
         have HV6 := Aside0.mk (show V = if 524288 < by_ then (2, -1) else (0, -1) by rw [HV5.out, if_pos z2])
         clear z2 HV5
         go_wp2_with fail
         refine HX5.out.mono ?_
         rintro e w6 ⟨rfl, hb6⟩
         have HB6 := Aside0.mk (HB5.out.trans (hb6.mono HB5.out.size))
         clear hb6 m0 m1 m2 m3 m4 m5 HM5 HB5 HX5
         by_cases z3 : 524288 < by_
         ·have z3b : decide (by_ > 524288) = true := decide_eq_true (by omega)
          have HV7 := Aside0.mk (show V = (2, -1) by rw [HV6.out, if_pos z3])
          clear z3 HV6
          go_wp2_with fail
          go_ret2
          exact ⟨by rw [HV7.out]; rfl, HB6.out⟩
         ·have z3b : decide (by_ > 524288) = false := decide_eq_false (by omega)
          have HV7 := Aside0.mk (show V = (0, -1) by rw [HV6.out, if_neg z3])
          clear z3 HV6
          go_wp2_with fail
          go_ret2
          exact ⟨by rw [HV7.out]; rfl, HB6.out⟩
        ·have z2b : (e2 != 0) = true := by simpa using z2
         have HV6 := Aside0.mk (show V = (e2, -1) by rw [HV5.out, if_neg z2])
         clear z2 HV5
         go_wp2_with fail
         go_ret2
         exact ⟨by rw [HV6.out]; rfl, HB5.out⟩
       ·have z1b : (e1 != 0) = true := by simpa using z1
        have HV5 := Aside0.mk (show V = (e1, -1) by rw [HV4.out, tl3, if_neg z1])
        clear z1 HV4
        go_wp2_with fail
        go_ret2
        exact ⟨by rw [HV5.out]; rfl, HB4.out⟩
end Go.Proofs.Ytknklchmpohjfaa.Ge
namespace Go.Proofs.Ytknklchmpohjfaa.Gk
open Go.RowKit Go Go.Proofs.YtknklchmpohjfaaW.PrintWords Go.Proofs.YtknklchmpohjfaaW.PrintLast Go.Proofs.YtknklchmpohjfaaW.PrintMore Go.Proofs.Ytknklchmpohjfaa.Mn Go.Proofs.Ytknklchmpohjfaa.Nd Go.Proofs.Ytknklchmpohjfaa.Z Go.Proofs.Ytknklchmpohjfaa.E Go.Proofs.Ytknklchmpohjfaa.Tk Go.Proofs.Ytknklchmpohjfaa.Tw
set_option linter.unusedVariables false
set_option linter.unusedSimpArgs false
theorem grown_set {W W1 : World} {g : Nat} (h : W.grownBy W1 (some g)) (i : Nat) (v : Value) : W.grownBy (W1.setCell ⟨g, i, none⟩ v) (some g) :=
 ⟨h.os, h.tape, h.output, by simpa [World.setCell] using h.size, fun k hk hne => (Below.heap_setCell W1 ⟨g, i, none⟩ v k (fun e => hne (by rw [e]))).trans (h.block k hk hne)⟩
set_option maxHeartbeats 4000000 in
set_option maxRecDepth 100000 in
theorem st_track {W : World} {gb : Nat} {o0 o1 o2 o3 o4 o5 o6 o7 o8 o9 oa : Value} (h : W.heap[gb]? = some (.cells #[o0, o1, o2, o3, o4, o5, o6, o7, o8, o9, oa] 40 (0, 0))) (v0 v1 : Int) (v2 : ByteArray) (v3 : Int) (A4 : Option Addr) (n4 c4 : Nat) (v5 v6 : ByteArray) (v7 : Int) (A8 : Option Addr) (n8 c8 : Nat) (A9 : Option Addr) (n9 c9 : Nat) (A10 : Option Addr) (n10 c10 : Nat) :
  ∃ W', (∀ {a : Act} {oi : Oper} {p q : Tmp}, oi.op = .store 40 (.tmp p) (.tmp q) → a.eval (.tmp p) = .pointer (some ⟨gb, 0, none⟩) → a.eval (.tmp q) = .agg #[.int .i64 v0, .int .i64 v1, .string v2, .int .i64 v3, .slice A4 n4 c4, .string v5, .string v6, .int .i64 v7, .slice A8 n8 c8, .slice A9 n9 c9, .slice A10 n10 c10] → (execOp a.eval oi).run Try.prog W = .ok .skip W') ∧ W'.heap[gb]? = some (.cells #[.int .i64 v0, .int .i64 v1, .string v2, .int .i64 v3, .slice A4 n4 c4, .string v5, .string v6, .int .i64 v7, .slice A8 n8 c8, .slice A9 n9 c9, .slice A10 n10 c10] 40 (0, 0)) ∧ W.grownBy W' (some gb) := by
 have hu := Try.underlying40
 obtain ⟨q0, q1, q2, q3, q4, q5, q6, q7, q8, q9, qa⟩ := ten_cells h
 have z0 := blk_frozen h 0
 have z1 := blk_frozen h 1
 have z2 := blk_frozen h 2
 have z3 := blk_frozen h 3
 have z4 := blk_frozen h 4
 have z5 := blk_frozen h 5
 have z6 := blk_frozen h 6
 have z7 := blk_frozen h 7
 have z8 := blk_frozen h 8
 have z9 := blk_frozen h 9
 have za := blk_frozen h 10
 obtain ⟨W0, e0⟩ : ∃ w, w = W.setCell ⟨gb, 0, none⟩ (.int .i64 v0) := ⟨_, rfl⟩
 have b0 : W0.heap[gb]? = some (.cells #[.int .i64 v0, o1, o2, o3, o4, o5, o6, o7, o8, o9, oa] 40 (0, 0)) := by rw [e0]; exact blk_put h 0 (.int .i64 v0) rfl
 have g0 : W.grownBy W0 (some gb) := by rw [e0]; exact grown_set (World.grownBy.refl W (some gb)) 0 (.int .i64 v0)
 obtain ⟨W1, e1⟩ : ∃ w, w = W0.setCell ⟨gb, 1, none⟩ (.int .i64 v1) := ⟨_, rfl⟩
 have b1 : W1.heap[gb]? = some (.cells #[.int .i64 v0, .int .i64 v1, o2, o3, o4, o5, o6, o7, o8, o9, oa] 40 (0, 0)) := by rw [e1]; exact blk_put b0 1 (.int .i64 v1) rfl
 have g1 : W.grownBy W1 (some gb) := by rw [e1]; exact grown_set g0 1 (.int .i64 v1)
 obtain ⟨W2, e2⟩ : ∃ w, w = W1.setCell ⟨gb, 2, none⟩ (.string v2) := ⟨_, rfl⟩
 have b2 : W2.heap[gb]? = some (.cells #[.int .i64 v0, .int .i64 v1, .string v2, o3, o4, o5, o6, o7, o8, o9, oa] 40 (0, 0)) := by rw [e2]; exact blk_put b1 2 (.string v2) rfl
 have g2 : W.grownBy W2 (some gb) := by rw [e2]; exact grown_set g1 2 (.string v2)
 obtain ⟨W3, e3⟩ : ∃ w, w = W2.setCell ⟨gb, 3, none⟩ (.int .i64 v3) := ⟨_, rfl⟩
 have b3 : W3.heap[gb]? = some (.cells #[.int .i64 v0, .int .i64 v1, .string v2, .int .i64 v3, o4, o5, o6, o7, o8, o9, oa] 40 (0, 0)) := by rw [e3]; exact blk_put b2 3 (.int .i64 v3) rfl
 have g3 : W.grownBy W3 (some gb) := by rw [e3]; exact grown_set g2 3 (.int .i64 v3)
 obtain ⟨W4, e4⟩ : ∃ w, w = W3.setCell ⟨gb, 4, none⟩ (.slice A4 n4 c4) := ⟨_, rfl⟩
 have b4 : W4.heap[gb]? = some (.cells #[.int .i64 v0, .int .i64 v1, .string v2, .int .i64 v3, .slice A4 n4 c4, o5, o6, o7, o8, o9, oa] 40 (0, 0)) := by rw [e4]; exact blk_put b3 4 (.slice A4 n4 c4) rfl
 have g4 : W.grownBy W4 (some gb) := by rw [e4]; exact grown_set g3 4 (.slice A4 n4 c4)
 obtain ⟨W5, e5⟩ : ∃ w, w = W4.setCell ⟨gb, 5, none⟩ (.string v5) := ⟨_, rfl⟩
 have b5 : W5.heap[gb]? = some (.cells #[.int .i64 v0, .int .i64 v1, .string v2, .int .i64 v3, .slice A4 n4 c4, .string v5, o6, o7, o8, o9, oa] 40 (0, 0)) := by rw [e5]; exact blk_put b4 5 (.string v5) rfl
 have g5 : W.grownBy W5 (some gb) := by rw [e5]; exact grown_set g4 5 (.string v5)
 obtain ⟨W6, e6⟩ : ∃ w, w = W5.setCell ⟨gb, 6, none⟩ (.string v6) := ⟨_, rfl⟩
 have b6 : W6.heap[gb]? = some (.cells #[.int .i64 v0, .int .i64 v1, .string v2, .int .i64 v3, .slice A4 n4 c4, .string v5, .string v6, o7, o8, o9, oa] 40 (0, 0)) := by rw [e6]; exact blk_put b5 6 (.string v6) rfl
 have g6 : W.grownBy W6 (some gb) := by rw [e6]; exact grown_set g5 6 (.string v6)
 obtain ⟨W7, e7⟩ : ∃ w, w = W6.setCell ⟨gb, 7, none⟩ (.int .i64 v7) := ⟨_, rfl⟩
 have b7 : W7.heap[gb]? = some (.cells #[.int .i64 v0, .int .i64 v1, .string v2, .int .i64 v3, .slice A4 n4 c4, .string v5, .string v6, .int .i64 v7, o8, o9, oa] 40 (0, 0)) := by rw [e7]; exact blk_put b6 7 (.int .i64 v7) rfl
 have g7 : W.grownBy W7 (some gb) := by rw [e7]; exact grown_set g6 7 (.int .i64 v7)
 obtain ⟨W8, e8⟩ : ∃ w, w = W7.setCell ⟨gb, 8, none⟩ (.slice A8 n8 c8) := ⟨_, rfl⟩
 have b8 : W8.heap[gb]? = some (.cells #[.int .i64 v0, .int .i64 v1, .string v2, .int .i64 v3, .slice A4 n4 c4, .string v5, .string v6, .int .i64 v7, .slice A8 n8 c8, o9, oa] 40 (0, 0)) := by rw [e8]; exact blk_put b7 8 (.slice A8 n8 c8) rfl
 have g8 : W.grownBy W8 (some gb) := by rw [e8]; exact grown_set g7 8 (.slice A8 n8 c8)
 obtain ⟨W9, e9⟩ : ∃ w, w = W8.setCell ⟨gb, 9, none⟩ (.slice A9 n9 c9) := ⟨_, rfl⟩
 have b9 : W9.heap[gb]? = some (.cells #[.int .i64 v0, .int .i64 v1, .string v2, .int .i64 v3, .slice A4 n4 c4, .string v5, .string v6, .int .i64 v7, .slice A8 n8 c8, .slice A9 n9 c9, oa] 40 (0, 0)) := by rw [e9]; exact blk_put b8 9 (.slice A9 n9 c9) rfl
 have g9 : W.grownBy W9 (some gb) := by rw [e9]; exact grown_set g8 9 (.slice A9 n9 c9)
 obtain ⟨W10, e10⟩ : ∃ w, w = W9.setCell ⟨gb, 10, none⟩ (.slice A10 n10 c10) := ⟨_, rfl⟩
 have b10 : W10.heap[gb]? = some (.cells #[.int .i64 v0, .int .i64 v1, .string v2, .int .i64 v3, .slice A4 n4 c4, .string v5, .string v6, .int .i64 v7, .slice A8 n8 c8, .slice A9 n9 c9, .slice A10 n10 c10] 40 (0, 0)) := by rw [e10]; exact blk_put b9 10 (.slice A10 n10 c10) rfl
 have g10 : W.grownBy W10 (some gb) := by rw [e10]; exact grown_set g9 10 (.slice A10 n10 c10)
 refine ⟨W10, ?_, b10, g10⟩
 intro a oi p q hop hp hq
 clear b0 b1 b2 b3 b4 b5 b6 b7 b8 b9 b10 g0 g1 g2 g3 g4 g5 g6 g7 g8 g9 g10
 rw [e10, e9, e8, e7, e6, e5, e4, e3, e2, e1, e0]
 clear e10 e9 e8 e7 e6 e5 e4 e3 e2 e1 e0
 simp only [execOp, hop, hp, hq]
 go_simp
def awS : List Sm := [⟨0, 0, 5, true, [], []⟩, ⟨1, 10, 5, false, [0], []⟩, ⟨2, 5, 5, false, [0, 1], []⟩]
theorem at_off (g n : Nat) : (⟨g, 0, none⟩ : Addr).add n = ⟨g, n, none⟩ := by
 simp only [Addr.add, Nat.zero_add]
 split
 ·rename_i h0
  rw [h0]
 ·rfl
theorem int_C {W : World} {g : Nat} {l : List Int} {t : TypeId} (h : W.heap[g]? = some (.cells (l.map (.int .i64)).toArray t (0, 0))) (hl : l.length ≤ 9223372036854775807) : Kd.C (Kd.int .i64) W (some ⟨g, 0, none⟩) l.length l := by
 refine ⟨rfl, hl, fun _ => ⟨_, rfl, fun j p hj => ⟨[.int .i64 p], rfl, rfl, fun i u hu => ?_⟩⟩⟩
 cases i with
 | succ i => simp at hu
 | zero =>
  rw [at_off, blk_cell h]
  simp only [List.getElem?_cons_zero, Option.some.injEq] at hu
  subst hu
  show (l.map (Value.int .i64)).toArray[j * 1 + 0]? = _
  simp [hj]
structure AwB (W : World) (b : Nat) : Prop where
 d1 : W.heap[b]? = some (.cells #[.int .i64 0] 3 (0, 0))
 d2 : W.heap[b + 1]? = some (.cells #[.int .i64 0, .int .i64 1] 3 (0, 0))
 s : W.heap[b + 1 + 1]? = some (.cells #[.int .i64 0, .int .i64 0, .int .i64 5, .bool true, .slice none 0 0, .slice none 0 0, .int .i64 1, .int .i64 10, .int .i64 5, .bool false, .slice (some ⟨b, 0, none⟩) 1 1, .slice none 0 0, .int .i64 2, .int .i64 5, .int .i64 5, .bool false, .slice (some ⟨b + 1, 0, none⟩) 2 2, .slice none 0 0] 51 (0, 0))
theorem AwB.C {W : World} {b : Nat} (h : AwB W b) : Kd.C k51 W (some ⟨b + 1 + 1, 0, none⟩) awS.length awS := by
 have c1 : Kd.C (Kd.int .i64) W (some ⟨b, 0, none⟩) 1 [0] := int_C (l := [0]) h.d1 (by decide)
 have c2 : Kd.C (Kd.int .i64) W (some ⟨b + 1, 0, none⟩) 2 [0, 1] := int_C (l := [0, 1]) h.d2 (by decide)
 refine ⟨rfl, by decide, fun _ => ⟨_, rfl, fun j p hj => ?_⟩⟩
 rcases j with _ | _ | _ | j
 ·obtain rfl : (⟨0, 0, 5, true, [], []⟩ : Sm) = p := by simpa [awS] using hj
  refine ⟨_, rfl, k51_mk W (⟨0, 0, 5, true, [], []⟩ : Sm) (A4 := none) (c4 := 0) (Nat.le_refl _) (Kd.C_nil _ _) (A5 := none) (c5 := 0) (Nat.le_refl _) (Kd.C_nil _ _), fun i u hu => ?_⟩
  rw [at_off, blk_cell h.s]
  show _ = some u
  rw [← hu]
  rcases i with _ | _ | _ | _ | _ | _ | i <;> first | rfl | simp at hu
 ·obtain rfl : (⟨1, 10, 5, false, [0], []⟩ : Sm) = p := by simpa [awS] using hj
  refine ⟨_, rfl, k51_mk W (⟨1, 10, 5, false, [0], []⟩ : Sm) (A4 := some ⟨b, 0, none⟩) (c4 := 1) (Nat.le_refl _) c1 (A5 := none) (c5 := 0) (Nat.le_refl _) (Kd.C_nil _ _), fun i u hu => ?_⟩
  rw [at_off, blk_cell h.s]
  show _ = some u
  rw [← hu]
  rcases i with _ | _ | _ | _ | _ | _ | i <;> first | rfl | simp at hu
 ·obtain rfl : (⟨2, 5, 5, false, [0, 1], []⟩ : Sm) = p := by simpa [awS] using hj
  refine ⟨_, rfl, k51_mk W (⟨2, 5, 5, false, [0, 1], []⟩ : Sm) (A4 := some ⟨b + 1, 0, none⟩) (c4 := 2) (Nat.le_refl _) c2 (A5 := none) (c5 := 0) (Nat.le_refl _) (Kd.C_nil _ _), fun i u hu => ?_⟩
  rw [at_off, blk_cell h.s]
  show _ = some u
  rw [← hu]
  rcases i with _ | _ | _ | _ | _ | _ | i <;> first | rfl | simp at hu
 ·simp [awS] at hj
theorem size_al (W : World) (o : Obj) : (W.alloc o).heap.size = W.heap.size + 1 := by unfold World.alloc; exact Array.size_push _
theorem new_at (W : World) (o : Obj) (n : Nat) (h : W.heap.size = n) : (W.alloc o).heap[n]? = some o := h ▸ blk_new W o
theorem AwB.start (W : World) : AwB (((W.alloc (.cells #[.int .i64 0] 3 (0, 0))).alloc (.cells #[.int .i64 0, .int .i64 1] 3 (0, 0))).alloc (.cells #[.int .i64 0, .int .i64 0, .int .i64 5, .bool true, .slice none 0 0, .slice none 0 0, .int .i64 1, .int .i64 10, .int .i64 5, .bool false, .slice (some ⟨W.heap.size, 0, none⟩) 1 1, .slice none 0 0, .int .i64 2, .int .i64 5, .int .i64 5, .bool false, .slice (some ⟨W.heap.size + 1, 0, none⟩) 2 2, .slice none 0 0] 51 (0, 0))) W.heap.size :=
 ⟨blk_alloc (blk_alloc (blk_new _ _) _) _, blk_alloc (new_at _ _ _ (size_al _ _)) _, new_at _ _ _ (by rw [size_al, size_al])⟩
theorem AwB.grown {W W1 : World} {b g : Nat} (h : AwB W b) (hg : W.grownBy W1 (some g)) (hb : g < b) : AwB W1 b :=
 ⟨blk_grown h.d1 hg (fun e => by have := Option.some.inj e; omega), blk_grown h.d2 hg (fun e => by have := Option.some.inj e; omega), blk_grown h.s hg (fun e => by have := Option.some.inj e; omega)⟩
set_option maxHeartbeats 4000000 in
set_option maxRecDepth 100000 in
theorem track_n (w : World) : Calls Try.prog 41 #[] w (fun e w' => ∃ b, e = .returned (.agg #[.int .i64 1, .int .i64 7, .string ⟨#[100, 97, 116, 97]⟩, .int .i64 10, .slice none 0 0, .string ⟨#[117, 110, 100]⟩, .string (⟨#[]⟩ : ByteArray), .int .i64 0, .slice none 0 0, .slice none 0 0, .slice (some ⟨b + 1 + 1, 0, none⟩) 3 3]) ∧ AwB w' b ∧ Below w.heap.size w w') := by
 have hu := Try.underlying40
 have hu2 := Try.underlying51
 go_enter Try.func41, Try.ntmps41
 go_wp2_with (first | ((with_reducible refine gate_dst (N := 0) rfl ?_); refine zB 0 40 #[.int .i64 0, .int .i64 0, .string (⟨#[]⟩ : ByteArray), .int .i64 0, .slice none 0 0, .string (⟨#[]⟩ : ByteArray), .string (⟨#[]⟩ : ByteArray), .int .i64 0, .slice none 0 0, .slice none 0 0, .slice none 0 0] ?_; intro gb hg W0 hbox hb; have HG := Aside0.mk hg; have HM0 := Aside0.mk hbox; have HB0 := Aside0.mk hb; clear hbox hb hg) | ((with_reducible refine gate_store (t := 40) (p := 0) rfl ?_); obtain ⟨W4, hrun, hblk, hgr⟩ := st_track (blk_alloc (blk_alloc (blk_alloc HM0.out (.cells #[.int .i64 0] 3 (0, 0))) (.cells #[.int .i64 0, .int .i64 1] 3 (0, 0))) (.cells #[.int .i64 0, .int .i64 0, .int .i64 5, .bool true, .slice none 0 0, .slice none 0 0, .int .i64 1, .int .i64 10, .int .i64 5, .bool false, .slice (some ⟨W0.heap.size, 0, none⟩) 1 1, .slice none 0 0, .int .i64 2, .int .i64 5, .int .i64 5, .bool false, .slice (some ⟨W0.heap.size + 1, 0, none⟩) 2 2, .slice none 0 0] 51 (0, 0))) 1 7 ⟨#[100, 97, 116, 97]⟩ 10 none 0 0 ⟨#[117, 110, 100]⟩ (⟨#[]⟩ : ByteArray) 0 none 0 0 none 0 0 (some ⟨W0.heap.size + 1 + 1, 0, none⟩) 3 3; refine store_event (t := 40) (p := 0) (w1 := W4) rfl rfl rfl (hrun (p := 0) (q := 7) rfl rfl rfl) ?_; intro w' hw; subst hw; have HK := Aside0.mk hblk; have HGR := Aside0.mk hgr; clear hblk hgr hrun))
 refine bodyPost_ret (results_cell_row rfl _ _ gb 40 #[.int .i64 1, .int .i64 7, .string ⟨#[100, 97, 116, 97]⟩, .int .i64 10, .slice none 0 0, .string ⟨#[117, 110, 100]⟩, .string (⟨#[]⟩ : ByteArray), .int .i64 0, .slice none 0 0, .slice none 0 0, .slice (some ⟨W0.heap.size + 1 + 1, 0, none⟩) 3 3] (0, 0) _ rfl HK.out Try.underlying40 rfl (by kernel_rfl)) rfl ?_
 have hlt := blk_lt HM0.out
 refine ⟨W0.heap.size, rfl, (AwB.start W0).grown HGR.out hlt, ?_⟩
 have h1 := below_alloc (below_alloc (below_alloc HB0.out (.cells #[.int .i64 0] 3 (0, 0))) (.cells #[.int .i64 0, .int .i64 1] 3 (0, 0))) (.cells #[.int .i64 0, .int .i64 0, .int .i64 5, .bool true, .slice none 0 0, .slice none 0 0, .int .i64 1, .int .i64 10, .int .i64 5, .bool false, .slice (some ⟨W0.heap.size, 0, none⟩) 1 1, .slice none 0 0, .int .i64 2, .int .i64 5, .int .i64 5, .bool false, .slice (some ⟨W0.heap.size + 1, 0, none⟩) 2 2, .slice none 0 0] 51 (0, 0))
 exact h1.grown HGR.out h1.size (fun k hk => by cases hk; rw [HG.out]; exact Nat.le_refl _)
end Go.Proofs.Ytknklchmpohjfaa.Gk
namespace Go.Proofs.Ytknklchmpohjfaa.Gx
open Go.RowKit Go Go.Proofs.YtknklchmpohjfaaW.PrintWords Go.Proofs.YtknklchmpohjfaaW.PrintLast Go.Proofs.YtknklchmpohjfaaW.PrintMore Go.Proofs.Ytknklchmpohjfaa.Mn Go.Proofs.Ytknklchmpohjfaa.Nd Go.Proofs.Ytknklchmpohjfaa.Z Go.Proofs.Ytknklchmpohjfaa.Rf Go.Proofs.Ytknklchmpohjfaa.E Go.Proofs.Ytknklchmpohjfaa.Tk Go.Proofs.Ytknklchmpohjfaa.Tw Go.Proofs.Ytknklchmpohjfaa.Gt Go.Proofs.Ytknklchmpohjfaa.Gs Go.Proofs.Ytknklchmpohjfaa.Gd Go.Proofs.Ytknklchmpohjfaa.Ge Go.Proofs.Ytknklchmpohjfaa.Gk Go.Proofs.Ytknklchmpohjfaa.Gr
set_option linter.unusedVariables false
set_option linter.unusedSimpArgs false
set_option maxHeartbeats 2000000 in
theorem valid_n {a b : Int} (h0 : 1 ≤ b) (h1 : b ≤ 1152921504606846976) (h2 : -1152921504606846976 ≤ a) (h3 : a ≤ 1152921504606846976) (w : World) : Calls Try.prog 68 #[.agg #[.int .i64 a, .int .i64 b]] w (ValP w (.bool true)) := by
 have hu := Try.underlying77
 have b0 : decide (b ≥ 1) = true := decide_eq_true h0
 have b1 : decide (b ≤ 1152921504606846976) = true := decide_eq_true h1
 have b2 : decide (a ≥ -1152921504606846976) = true := decide_eq_true h2
 have b3 : decide (a ≤ 1152921504606846976) = true := decide_eq_true h3
 have HB := Aside0.mk (below_alloc (Below.refl w.heap.size w) (.cells #[.int .i64 a, .int .i64 b] 77 (0, 0)))
 clear h0 h1 h2 h3
 go_enter Try.func68, Try.ntmps68
 go_wp2_with fail
 go_ret
 exact ⟨rfl, HB.out⟩
section
variable (scaleM : Int) (title : ByteArray) (A2 : Option Addr) (n2 c2 : Nat) (A3 : Option Addr) (n3 c3 : Nat) (A5 : Option Addr) (n5 c5 : Nat) (A6 : Option Addr) (n6 c6 : Nat) (id kind : Int) (codec : ByteArray) (scale : Int) (A4 : Option Addr) (c4 : Nat) (setup : List Int) (lang name : ByteArray) (pr : Int) (A8 : Option Addr) (c8 : Nat) (A9 : Option Addr) (c9 : Nat) (refs : List Rf) (A10 : Option Addr) (c10 : Nat) (samples : List Sm)
set_option maxHeartbeats 8000000 in
set_option maxRecDepth 100000 in
theorem media0_n (gx : Nat) (q : Rat) (n : Nat) (w : World) (hx : RQ w gx q n) (hq : 0 ≤ q.num) : Calls Try.prog 69 #[.agg #[.int .i64 scaleM, .string title, .slice A2 n2 c2, .slice A3 n3 c3, .slice A5 n5 c5, .slice A6 n6 c6], .agg #[.int .i64 id, .int .i64 kind, .string codec, .int .i64 scale, .slice A4 setup.length c4, .string lang, .string name, .int .i64 pr, .slice A8 0 c8, .slice A9 refs.length c9, .slice A10 samples.length c10], .pointer (some ⟨gx, 0, none⟩)] w (fun e w' => e = .returned (.pointer (some ⟨gx, 0, none⟩)) ∧ Below w.heap.size w w') := by
 have hu := Try.underlying40
 have HX := Aside0.mk hx
 have HC := Aside0.mk (show ∃ c : Int, 0 ≤ c ∧ cmpI q.num 0 = c by
  refine ⟨_, ?_, rfl⟩
  unfold cmpI
  rw [if_neg (by omega)]
  split <;> decide)
 clear hx hq
 go_enter Try.func69, Try.ntmps69
 go_upto_region 1 with (first | ((with_reducible refine gate_dst (N := 3) rfl ?_); refine zB 3 27 #[.int .i64 scaleM, .string title, .slice A2 n2 c2, .slice A3 n3 c3, .slice A5 n5 c5, .slice A6 n6 c6] ?_; intro gm hg W0 hbox hb; have HGM := Aside0.mk hg; have HM0 := Aside0.mk hbox; have HB0 := Aside0.mk hb; clear hbox hb hg) | ((with_reducible refine gate_dst (N := 4) rfl ?_); refine zB 4 40 #[.int .i64 id, .int .i64 kind, .string codec, .int .i64 scale, .slice A4 setup.length c4, .string lang, .string name, .int .i64 pr, .slice A8 0 c8, .slice A9 refs.length c9, .slice A10 samples.length c10] ?_; intro gt hg W1 hbox hb; have HM1 := Aside0.mk (blk_below HM0.out hb); have HT1 := Aside0.mk hbox; have HB1 := Aside0.mk (HB0.out.trans (hb.mono HB0.out.size)); clear hbox hb hg))
 go_wp2_with fail
 refine (signQ_n gx q n W1 (HX.out.below HB1.out)).mono ?_
 rintro e w2 ⟨rfl, hb2⟩
 have HT2 := Aside0.mk (blk_below HT1.out hb2)
 have HB2 := Aside0.mk (HB1.out.trans (hb2.mono HB1.out.size))
 have q8 : w2.cell? ⟨gt, 8, none⟩ = some (.slice A8 0 c8) := (blk_cell HT2.out 8).trans rfl
 obtain ⟨c, hc0, ec⟩ := HC.out
 rw [ec]
 have hcd : decide (c < 0) = false := decide_eq_false (by omega)
 clear hb2 ec hc0
 go_wp2_with fail
 go_ret
 exact ⟨rfl, HB2.out⟩
set_option maxHeartbeats 8000000 in
set_option maxRecDepth 100000 in
theorem shown0_n (gx : Nat) (q : Rat) (n : Nat) (w : World) (hx : RQ w gx q n) (hq : 0 ≤ q.num) (hsc : 1 ≤ scale ∧ scale ≤ 1000000) (hr : Kd.C k51 w A10 samples.length samples) (hn : n ≤ 100) (hs : ∀ s ∈ samples, rngS s) (hl : samples.length ≤ 1000) : Calls Try.prog 58 #[.agg #[.int .i64 scaleM, .string title, .slice A2 n2 c2, .slice A3 n3 c3, .slice A5 n5 c5, .slice A6 n6 c6], .agg #[.int .i64 id, .int .i64 kind, .string codec, .int .i64 scale, .slice A4 setup.length c4, .string lang, .string name, .int .i64 pr, .slice A8 0 c8, .slice A9 refs.length c9, .slice A10 samples.length c10], .pointer (some ⟨gx, 0, none⟩)] w (ValP w (.int .i64 (shL (q * qq scale 1) samples samples 0 (-1)))) := by
 have hu := Try.underlying40
 have hu2 := Try.underlying27
 have HX := Aside0.mk (And.intro hx (And.intro hq (And.intro hsc (And.intro hr (And.intro hn (And.intro hs hl))))))
 clear hx hq hsc hr hn hs hl
 go_enter Try.func58, Try.ntmps58
 go_upto_region 1 with (first | ((with_reducible refine gate_dst (N := 3) rfl ?_); refine zB 3 27 #[.int .i64 scaleM, .string title, .slice A2 n2 c2, .slice A3 n3 c3, .slice A5 n5 c5, .slice A6 n6 c6] ?_; intro gm hg W0 hbox hb; have HGM := Aside0.mk hg; have HM0 := Aside0.mk hbox; have HB0 := Aside0.mk hb; clear hbox hb hg) | ((with_reducible refine gate_dst (N := 4) rfl ?_); refine zB 4 40 #[.int .i64 id, .int .i64 kind, .string codec, .int .i64 scale, .slice A4 setup.length c4, .string lang, .string name, .int .i64 pr, .slice A8 0 c8, .slice A9 refs.length c9, .slice A10 samples.length c10] ?_; intro gt hg W1 hbox hb; have HM1 := Aside0.mk (blk_below HM0.out hb); have HT1 := Aside0.mk hbox; have HB1 := Aside0.mk (HB0.out.trans (hb.mono HB0.out.size)); clear hbox hb hg))
 obtain ⟨m0, m1, m2, m3, m4, m5⟩ := mv_cells HM1.out
 obtain ⟨q0, q1, q2, q3, q4, q5, q6, q7, q8, q9, qa⟩ := ten_cells HT1.out
 go_wp2_with fail
 refine (media0_n scaleM title A2 n2 c2 A3 n3 c3 A5 n5 c5 A6 n6 c6 id kind codec scale A4 c4 setup lang name pr A8 c8 A9 c9 refs A10 c10 samples gx q n W1 (HX.out.1.below HB1.out) HX.out.2.1).mono ?_
 rintro e w2 ⟨rfl, hb2⟩
 have HT2 := Aside0.mk (blk_below HT1.out hb2)
 have HB2 := Aside0.mk (HB1.out.trans (hb2.mono HB1.out.size))
 clear hb2 q0 q1 q2 q3 q4 q5 q6 q7 q8 q9 qa m0 m1 m2 m3 m4 m5
 obtain ⟨q0, q1, q2, q3, q4, q5, q6, q7, q8, q9, qa⟩ := ten_cells HT2.out
 go_wp2_with fail
 refine (shownAt_n id kind codec scale A4 c4 setup lang name pr A8 c8 [] A9 c9 refs A10 c10 samples gx q n w2 HX.out.2.2.1 (Kd.C_below HX.out.2.2.2.1 HB2.out) (HX.out.1.below HB2.out) HX.out.2.2.2.2.1 HX.out.2.2.2.2.2.1 HX.out.2.2.2.2.2.2).mono ?_
 rintro e w3 ⟨rfl, hb3⟩
 have HB3 := Aside0.mk (HB2.out.trans (hb3.mono HB2.out.size))
 clear hb3
 go_wp2_with fail
 go_ret
 exact ⟨rfl, HB3.out⟩
end
section
variable (scaleM : Int) (title : ByteArray) (ts : List Tr') (A2 : Option Addr) (c2 : Nat) (A3 : Option Addr) (n3 c3 : Nat) (A5 : Option Addr) (n5 c5 : Nat) (A6 : Option Addr) (n6 c6 : Nat)
set_option maxHeartbeats 8000000 in
set_option maxRecDepth 100000 in
theorem asked_n (id a b j i : Int) (w : World) (hr : Kd.C k40 w A2 ts.length ts) (h0 : 1 ≤ b) (h1 : b ≤ 1152921504606846976) (h2 : -1152921504606846976 ≤ a) (h3 : a ≤ 1152921504606846976) (hi : findT ts id 0 = i) (i0 : 0 ≤ i) (i1 : i < (ts.length : Int))
  (hc : ∀ W, Below w.heap.size w W → Calls Try.prog 9 #[.agg #[.int .i64 scaleM, .string title, .slice A2 ts.length c2, .slice A3 n3 c3, .slice A5 n5 c5, .slice A6 n6 c6]] W (ValP W (.tuple #[.int .i64 0, .int .i64 j]))) :
  Calls Try.prog 57 #[.agg #[.int .i64 scaleM, .string title, .slice A2 ts.length c2, .slice A3 n3 c3, .slice A5 n5 c5, .slice A6 n6 c6], .int .i64 id, .agg #[.int .i64 a, .int .i64 b]] w (fun e w' => ∃ T : Tr', T = rd_T40 ts i ∧ ∃ B4 d4 B8 d8 B9 d9 B10 d10, e = .returned (.tuple #[.agg #[.int .i64 T.f0, .int .i64 T.f1, .string T.f2, .int .i64 T.f3, .slice B4 T.f4.length d4, .string T.f5, .string T.f6, .int .i64 T.f7, .slice B8 T.f8.length d8, .slice B9 T.f9.length d9, .slice B10 T.f10.length d10], .int .i64 0]) ∧ Hd B4 T.f4 B8 T.f8 B9 T.f9 B10 T.f10 w' ∧ Below w.heap.size w w') := by
 have hu := Try.underlying40
 have hu2 := Try.underlying27
 have hu3 := Try.underlying77
 have HR := Aside0.mk hr
 have HC := Aside0.mk hc
 have HV := Aside0.mk (fun W => valid_n h0 h1 h2 h3 W)
 have HI := Aside0.mk (And.intro hi (And.intro i0 i1))
 clear hr hc h0 h1 h2 h3 hi i0 i1
 go_enter Try.func57, Try.ntmps57
 go_upto_region 1 with (first | ((with_reducible refine gate_dst (N := 3) rfl ?_); refine zB 3 27 #[.int .i64 scaleM, .string title, .slice A2 ts.length c2, .slice A3 n3 c3, .slice A5 n5 c5, .slice A6 n6 c6] ?_; intro gm hg W0 hbox hb; have HGM := Aside0.mk hg; have HM0 := Aside0.mk hbox; have HB0 := Aside0.mk hb; clear hbox hb hg) | ((with_reducible refine gate_dst (N := 5) rfl ?_); refine zB 5 77 #[.int .i64 a, .int .i64 b] ?_; intro gx hg W1 hbox hb; have HM1 := Aside0.mk (blk_below HM0.out hb); have HX1 := Aside0.mk hbox; have HB1 := Aside0.mk (HB0.out.trans (hb.mono HB0.out.size)); clear hbox hb hg) | ((with_reducible refine gate_dst (N := 6) rfl ?_); refine zB 6 40 #[.int .i64 0, .int .i64 0, .string (⟨#[]⟩ : ByteArray), .int .i64 0, .slice none 0 0, .string (⟨#[]⟩ : ByteArray), .string (⟨#[]⟩ : ByteArray), .int .i64 0, .slice none 0 0, .slice none 0 0, .slice none 0 0] ?_; intro gz hg W2 hbox hb; have HM2 := Aside0.mk (blk_below HM1.out hb); have HX2 := Aside0.mk (blk_below HX1.out hb); have HZ2 := Aside0.mk hbox; have HGZ := Aside0.mk (show w.heap.size ≤ gz by rw [hg]; exact HB1.out.size); have HB2 := Aside0.mk (HB1.out.trans (hb.mono HB1.out.size)); clear hbox hb hg))
 obtain ⟨m0, m1, m2, m3, m4, m5⟩ := mv_cells HM2.out
 go_wp2_with fail
 refine (HC.out W2 HB2.out).mono ?_
 rintro e w3 ⟨rfl, hb3⟩
 have HM3 := Aside0.mk (blk_below HM2.out hb3)
 have HX3 := Aside0.mk (blk_below HX2.out hb3)
 have HZ3 := Aside0.mk (blk_below HZ2.out hb3)
 have HB3 := Aside0.mk (HB2.out.trans (hb3.mono HB2.out.size))
 clear hb3 m0 m1 m2 m3 m4 m5 HM2 HX2 HZ2 HB2 HC
 obtain ⟨x0, x1, _, _⟩ := xc2 HX3
 go_wp2_with fail
 refine (HV.out w3).mono ?_
 rintro e w4 ⟨rfl, hb4⟩
 have HM4 := Aside0.mk (blk_below HM3.out hb4)
 have HZ4 := Aside0.mk (blk_below HZ3.out hb4)
 have HB4 := Aside0.mk (HB3.out.trans (hb4.mono HB3.out.size))
 clear hb4 x0 x1 HM3 HX3 HZ3 HB3 HV
 obtain ⟨m0, m1, m2, m3, m4, m5⟩ := mv_cells HM4.out
 go_wp2_with fail
 refine (find_n scaleM title ts A2 c2 _ _ _ id w4 (Kd.C_below HR.out HB4.out)).mono ?_
 rintro e w5 ⟨rfl, hb5⟩
 rw [HI.out.1]
 have HM5 := Aside0.mk (blk_below HM4.out hb5)
 have HZ5 := Aside0.mk (blk_below HZ4.out hb5)
 have HB5 := Aside0.mk (HB4.out.trans (hb5.mono HB4.out.size))
 clear hb5 m0 m1 m2 m3 m4 m5 HM4 HZ4 HB4
 have hid : decide (i < 0) = false := decide_eq_false (by have := HI.out; omega)
 obtain ⟨ad, B4, d4, B8, d8, B9, d9, B10, d10, hA, r0, r1, r2, r3, r4, r5, r6, r7, r8, r9, r10, t4, k4, t8, k8, t9, k9, t10, k10⟩ := at_T40 HR.out i HI.out.2.1 HI.out.2.2
 subst hA
 obtain ⟨T, hT⟩ : ∃ T, T = rd_T40 ts i := ⟨_, rfl⟩
 rw [← hT] at r0 r1 r2 r3 r4 r5 r6 r7 r8 r9 r10 t4 k4 t8 k8 t9 k9 t10 k10
 have HT := Aside0.mk hT
 have HD := Aside0.mk (show Hd B4 T.f4 B8 T.f8 B9 T.f9 B10 T.f10 w from ⟨k4, k8, k9, k10⟩)
 replace r0 := pw_cell_below HB5.out r0
 replace r1 := pw_cell_below HB5.out r1
 replace r2 := pw_cell_below HB5.out r2
 replace r3 := pw_cell_below HB5.out r3
 replace r4 := pw_cell_below HB5.out r4
 replace r5 := pw_cell_below HB5.out r5
 replace r6 := pw_cell_below HB5.out r6
 replace r7 := pw_cell_below HB5.out r7
 replace r8 := pw_cell_below HB5.out r8
 replace r9 := pw_cell_below HB5.out r9
 replace r10 := pw_cell_below HB5.out r10
 have p0 := eq_true HI.out.2.1
 have p1 := eq_true HI.out.2.2
 have m2 : w5.cell? ⟨gm, 2, none⟩ = some (.slice (some ad) ts.length c2) := (blk_cell HM5.out 2).trans rfl
 clear hT t4 k4 t8 k8 t9 k9 t10 k10
 obtain ⟨W6, hrun, hblk, hgr⟩ := st_track HZ5.out T.f0 T.f1 T.f2 T.f3 B4 T.f4.length d4 T.f5 T.f6 T.f7 B8 T.f8.length d8 B9 T.f9.length d9 B10 T.f10.length d10
 have HS := Aside0.mk hblk
 have HGR := Aside0.mk hgr
 clear hblk hgr
 go_wp2_with (first | ((with_reducible refine gate_store (t := 40) (p := 6) rfl ?_); refine store_event (t := 40) (p := 6) (w1 := W6) rfl rfl rfl (hrun (p := 6) (q := 34) rfl rfl rfl) ?_; intro w' hw; subst hw))
 refine bodyPost_ret (results_ct rfl _ _ gz 40 #[.int .i64 T.f0, .int .i64 T.f1, .string T.f2, .int .i64 T.f3, .slice B4 T.f4.length d4, .string T.f5, .string T.f6, .int .i64 T.f7, .slice B8 T.f8.length d8, .slice B9 T.f9.length d9, .slice B10 T.f10.length d10] (0, 0) _ rfl HS.out Try.underlying40 rfl (by kernel_rfl)) rfl ?_
 have hz : w.heap.size ≤ gz := HGZ.out
 have hb6 := HB5.out.grown HGR.out HB5.out.size (fun k hk => by cases hk; exact hz)
 exact ⟨T, HT.out, B4, d4, B8, d8, B9, d9, B10, d10, rfl, Hd.below B4 T.f4 B8 T.f8 B9 T.f9 B10 T.f10 HD.out hb6, hb6⟩
end
end Go.Proofs.Ytknklchmpohjfaa.Gx
namespace Go.Proofs.Ytknklchmpohjfaa.Gm
open Go.Maps Go.RowKit Go Go.Proofs.YtknklchmpohjfaaW.PrintWords Go.Proofs.YtknklchmpohjfaaW.PrintLast Go.Proofs.YtknklchmpohjfaaW.PrintMore Go.Proofs.Ytknklchmpohjfaa.Mn Go.Proofs.Ytknklchmpohjfaa.E Go.Proofs.Ytknklchmpohjfaa.Mp Go.Proofs.Ytknklchmpohjfaa.Gb
set_option linter.unusedVariables false
set_option linter.unusedSimpArgs false
def thL (p : Int × Int) : Lit := .string (keyBytes [.int .i64 p.1, .int .i64 p.2])
def Wf (a : Int) : Prop := (Lit.int .i64 a).wf = true
theorem wf_of {a : Int} (h0 : -9223372036854775808 ≤ a) (h1 : a ≤ 9223372036854775807) : Wf a := WalkArith.wf_i64 (by omega)
set_option maxRecDepth 100000 in
theorem lits {a b : Int} (ha : Wf a) (hb : Wf b) : Try.prog.keyLits (Try.prog.types.size + 1) 97 [.int .i64 a, .int .i64 b] = some [.int .i64 a, .int .i64 b] := by
 obtain ⟨d, hd⟩ : ∃ d, Try.prog.types.size = d + 1 := ⟨Try.prog.types.size - 1, by kernel_rfl⟩
 rw [hd]
 have hu := Try.underlying97
 have hi := Try.underlying3
 have c1 : Try.prog.cellsOf 97 = 2 := by kernel_rfl
 have c2 : Try.prog.cellsOf 3 = 1 := by kernel_rfl
 have k1 : ∀ z, Wf z → Try.prog.keyLits (d + 1) 3 [.int .i64 z] = some [.int .i64 z] := by
  intro z hz
  simp only [Program.keyLits, hi]
  exact if_pos (by first | exact ⟨rfl, hz⟩ | exact ⟨trivial, hz⟩)
 rw [Program.keyLits.eq_def]
 simp only [hu, c1]
 simp [c2, k1 a ha, k1 b hb]
set_option maxRecDepth 100000 in
theorem key_thing {a b : Int} (ha : Wf a) (hb : Wf b) : keyOf Try.prog 97 (.agg #[.int .i64 a, .int .i64 b]) = some (thL (a, b)) := by
 have hu := Try.underlying97
 have c1 : Try.prog.cellsOf 97 = 2 := by kernel_rfl
 have kt : Try.prog.keyType 97 = true := by kernel_rfl
 have hl := lits ha hb
 unfold keyOf
 rw [hu]
 simp only [kt, Value.formed, hu, c1, Bool.true_and]
 rw [if_pos (show ((#[Value.int .i64 a, Value.int .i64 b] : Array Value).size == 2) = true from rfl)]
 show ((Try.prog.keyLits (Try.prog.types.size + 1) 97 [.int .i64 a, .int .i64 b]).map fun ls => Lit.string (keyBytes ls)) = _
 rw [hl]
 rfl
theorem lawT : Keyed Try.prog 97 := Keyed.of_law (deep_law_laid (m := 10) (by kernel_rfl) (by decide) (of_decide_eq_true (by kernel_rfl)) (by kernel_rfl) (by kernel_rfl))
end Go.Proofs.Ytknklchmpohjfaa.Gm

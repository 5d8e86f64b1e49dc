/-
  EditChains: what a list shows behind another one, and behind itself. The reference's cut list is the same. The reference's lists put behind one another: Join and Delay. EditJoins: two lists behind one another, one again and again, and whether two show the same, are as the reference says. The reference's time of a rational number is its lowest form. The reference's rational numbers in memory: what its calls make of them. The reference's sums of times, and times of ticks. EditChains: what a list shows behind another one, and behind itself.
-/
import Derived.Test.YtpbhepdgamoiaaaQREditChainsi
import Derived.Test.YtpbhepdgamoiaaaQREditChainsg
import Derived.Test.YtpbhepdgamoiaaaQREditChainsa
import Derived.Test.YtpbhepdgamoiaaaQREditChainsd
import Derived.Test.YtpbhepdgamoiaaaQREditChainsf
import Derived.Test.YtpbhepdgamoiaaaQREditChainsh
import Derived.Test.YtpbhepdgamoiaaaQREditChainsc
import Derived.Outline
import Derived.Test.YtpbhepdgamoiaaaRows
import Derived.WalkKit
import Derived.ProofKit
import Derived.OpenShut
import Derived.ChangeOld
import Derived.Below
import Derived.SizedLaws
import Derived.Carry

namespace Go.Proofs.Ytpbhepdgamoiaaa.Rct
open Go.RowKit Go Go.Proofs.YtpbhepdgamoiaaaW.PrintWords Go.Proofs.YtpbhepdgamoiaaaW.PrintLast Go.Proofs.YtpbhepdgamoiaaaW.PrintMore Go.Proofs.Ytpbhepdgamoiaaa.Mn Go.Proofs.Ytpbhepdgamoiaaa.Rf Go.Proofs.Ytpbhepdgamoiaaa.Er Go.Proofs.Ytpbhepdgamoiaaa.Ek Go.Proofs.Ytpbhepdgamoiaaa.Et Go.Proofs.Ytpbhepdgamoiaaa.Ew Go.Proofs.Ytpbhepdgamoiaaa.E Go.Proofs.Ytpbhepdgamoiaaa.Pe Go.Proofs.Ytpbhepdgamoiaaa.Pf Go.Proofs.Ytpbhepdgamoiaaa.Pg Go.Proofs.Ytpbhepdgamoiaaa.Qr Go.Proofs.Ytpbhepdgamoiaaa.Qn Go.Proofs.Ytpbhepdgamoiaaa.Qo Go.Proofs.Ytpbhepdgamoiaaa.Qp Go.Proofs.Ytpbhepdgamoiaaa.Qw Go.Proofs.Ytpbhepdgamoiaaa.Fr Go.Proofs.Ytpbhepdgamoiaaa.Cl Go.Proofs.Ytpbhepdgamoiaaa.Nm Go.Proofs.Ytpbhepdgamoiaaa.So Go.Proofs.Ytpbhepdgamoiaaa.Ct
set_option linter.unusedVariables false
set_option linter.unusedSimpArgs false
end Go.Proofs.Ytpbhepdgamoiaaa.Rct
namespace Go.Proofs.Ytpbhepdgamoiaaa.Jr
open Go.RowKit Go Go.Proofs.YtpbhepdgamoiaaaW.PrintWords Go.Proofs.YtpbhepdgamoiaaaW.PrintLast Go.Proofs.YtpbhepdgamoiaaaW.PrintMore Go.Proofs.Ytpbhepdgamoiaaa.Mn Go.Proofs.Ytpbhepdgamoiaaa.Nd Go.Proofs.Ytpbhepdgamoiaaa.Z Go.Proofs.Ytpbhepdgamoiaaa.Rf Go.Proofs.Ytpbhepdgamoiaaa.Er Go.Proofs.Ytpbhepdgamoiaaa.Ek Go.Proofs.Ytpbhepdgamoiaaa.Et Go.Proofs.Ytpbhepdgamoiaaa.E Go.Proofs.Ytpbhepdgamoiaaa.Pe Go.Proofs.Ytpbhepdgamoiaaa.Pf Go.Proofs.Ytpbhepdgamoiaaa.Qo Go.Proofs.Ytpbhepdgamoiaaa.Qp Go.Proofs.Ytpbhepdgamoiaaa.Ct Go.Proofs.Ytpbhepdgamoiaaa.Jn Go.Proofs.Ytpbhepdgamoiaaa.Rct
set_option linter.unusedVariables false
set_option linter.unusedSimpArgs false
end Go.Proofs.Ytpbhepdgamoiaaa.Jr
namespace Go.Proofs.Ytpbhepdgamoiaaa.E
open Go.RowKit Go Go.Proofs.YtpbhepdgamoiaaaW.PrintWords Go.Proofs.YtpbhepdgamoiaaaW.PrintLast Go.Proofs.YtpbhepdgamoiaaaW.PrintMore Go.Proofs.Ytpbhepdgamoiaaa.Pe Go.Proofs.Ytpbhepdgamoiaaa.Jn Go.Proofs.Ytpbhepdgamoiaaa.Jr
end Go.Proofs.Ytpbhepdgamoiaaa.E
namespace Go.Proofs.Ytpbhepdgamoiaaa.E
open Go.Proofs.Ytpbhepdgamoiaaa.Z Go.RowKit Go.Proofs.YtpbhepdgamoiaaaW.PrintWords Go.Proofs.YtpbhepdgamoiaaaW.PrintLast Go.Proofs.YtpbhepdgamoiaaaW.PrintMore
attribute [local go_sem] max2_int min2_int max_two min_two max_three min_three max_four min_four
set_option linter.unusedVariables false
set_option linter.unusedSimpArgs false
end Go.Proofs.Ytpbhepdgamoiaaa.E

namespace Go.Proofs.Ytpbhepdgamoiaaa.Jo
open Go.RowKit Go Go.Proofs.YtpbhepdgamoiaaaW.PrintWords Go.Proofs.YtpbhepdgamoiaaaW.PrintLast Go.Proofs.YtpbhepdgamoiaaaW.PrintMore Go.Proofs.Ytpbhepdgamoiaaa.Mn Go.Proofs.Ytpbhepdgamoiaaa.Rf Go.Proofs.Ytpbhepdgamoiaaa.Er Go.Proofs.Ytpbhepdgamoiaaa.Ek Go.Proofs.Ytpbhepdgamoiaaa.Et Go.Proofs.Ytpbhepdgamoiaaa.E Go.Proofs.Ytpbhepdgamoiaaa.Pe Go.Proofs.Ytpbhepdgamoiaaa.Pf Go.Proofs.Ytpbhepdgamoiaaa.Pg Go.Proofs.Ytpbhepdgamoiaaa.Ph Go.Proofs.Ytpbhepdgamoiaaa.Qo Go.Proofs.Ytpbhepdgamoiaaa.Qp Go.Proofs.Ytpbhepdgamoiaaa.Qe Go.Proofs.Ytpbhepdgamoiaaa.Fr Go.Proofs.Ytpbhepdgamoiaaa.Ct Go.Proofs.Ytpbhepdgamoiaaa.Jn Go.Proofs.Ytpbhepdgamoiaaa.Rp Go.Proofs.Ytpbhepdgamoiaaa.Oe
set_option linter.unusedVariables false
set_option linter.unusedSimpArgs false
end Go.Proofs.Ytpbhepdgamoiaaa.Jo
namespace Go.Proofs.Ytpbhepdgamoiaaa.Qt
open Go.RowKit Go Go.Proofs.YtpbhepdgamoiaaaW.PrintWords Go.Proofs.YtpbhepdgamoiaaaW.PrintLast Go.Proofs.YtpbhepdgamoiaaaW.PrintMore Go.Proofs.Ytpbhepdgamoiaaa.Ml Go.Proofs.Ytpbhepdgamoiaaa.Mn Go.Proofs.Ytpbhepdgamoiaaa.Nd Go.Proofs.Ytpbhepdgamoiaaa.Pa Go.Proofs.Ytpbhepdgamoiaaa.Pb Go.Proofs.Ytpbhepdgamoiaaa.Pc Go.Proofs.Ytpbhepdgamoiaaa.Rf Go.Proofs.Ytpbhepdgamoiaaa.Er Go.Proofs.Ytpbhepdgamoiaaa.Ek Go.Proofs.Ytpbhepdgamoiaaa.Et Go.Proofs.Ytpbhepdgamoiaaa.E Go.Proofs.Ytpbhepdgamoiaaa.Pe Go.Proofs.Ytpbhepdgamoiaaa.Pf Go.Proofs.Ytpbhepdgamoiaaa.Qr Go.Proofs.Ytpbhepdgamoiaaa.Qn Go.Proofs.Ytpbhepdgamoiaaa.Qw
set_option linter.unusedVariables false
set_option linter.unusedSimpArgs false
theorem time_l {b : Bool} {x y : List Int} (r : Int × Int × Int) (hfin : ∀ u, Nn u → u.length ≤ 1000 → 0 < dv 1000000000 u → dv 1000000000 u = (Int.gcd (dv 1000000000 x) (dv 1000000000 y) : Nat) → Ev (fun k => dioramaref02_Time.l0 k u [] b x y) r) :
  ∀ (m : Nat) (u v : List Int), Nn u → Nn v → u.length ≤ 1000 → v.length ≤ 1000 → (0 < dv 1000000000 u ∨ 0 < dv 1000000000 v) → Int.gcd (dv 1000000000 u) (dv 1000000000 v) = Int.gcd (dv 1000000000 x) (dv 1000000000 y) → (dv 1000000000 v).toNat ≤ m → Ev (fun k => dioramaref02_Time.l0 k u v b x y) r := by
 have zero : ∀ (u v : List Int), Nn u → Nn v → u.length ≤ 1000 → (0 < dv 1000000000 u ∨ 0 < dv 1000000000 v) → Int.gcd (dv 1000000000 u) (dv 1000000000 v) = Int.gcd (dv 1000000000 x) (dv 1000000000 y) → dv 1000000000 v = 0 → Ev (fun k => dioramaref02_Time.l0 k u v b x y) r := by
  intro u v hu hv lu hp hg h0
  obtain rfl := (dv_eq_zero (by decide) hv).1 h0
  have hz : dv 1000000000 [] = 0 := rfl
  rw [hz] at hg hp
  have hpu : 0 < dv 1000000000 u := by omega
  refine hfin u hu lu hpu ?_
  rw [← hg, Int.gcd_zero_right]
  omega
 intro m
 induction m with
 | zero =>
  intro u v hu hv lu lv hp hg hm
  have : 0 ≤ dv 1000000000 v := dv_nonneg (by decide) hv.dg
  exact zero u v hu hv lu hp hg (by omega)
 | succ m ih =>
  intro u v hu hv lu lv hp hg hm
  have hv0 : 0 ≤ dv 1000000000 v := dv_nonneg (by decide) hv.dg
  by_cases h0 : dv 1000000000 v = 0
  ·exact zero u v hu hv lu hp hg h0
  ·obtain ⟨r1, r2, he, n1, n2, e1, e2, l1, l2⟩ := over_f u v hu hv (by omega) (by omega) (by omega)
   have hr0 : 0 ≤ dv 1000000000 r2 := dv_nonneg (by decide) n2.dg
   have hl : (v.length : Int) > 0 := by
    cases v with
    | nil => exact absurd rfl h0
    | cons a t => simp
   refine Ev.step (fun k => by rw [dioramaref02_Time.l0]) (Ev.congr (fun k => if_pos hl) (Ev.bind he ?_))
   exact ih v r2 hv n2 lv (by omega) (.inl (by omega)) ((Ra.gcd_step e1).trans hg) (by omega)
theorem time_f {b : Bool} {x y : List Int} {q : Rat} {n : Nat} (h : RV b x y q n) (hn : n ≤ 1000) : Ev (fun k => dioramaref02_Time.f k b x y) ((tmV q).1.1, (tmV q).1.2, (tmV q).2) := by
 have lx := h.lx
 have ly := h.ly
 have hx0 := h.x0
 have hy0 := h.pos
 by_cases hx : (x.length : Int) = 0
 ·have hxn : x = [] := by cases x with | nil => rfl | cons a t => simp at hx; omega
  have hq : q = 0 := by
   rw [h.eq, hxn]
   unfold qq
   cases b <;> simp [sg, dv]
  refine Ev.congr (f := fun _ => some (0, 1, 0)) (fun k => if_pos hx) ?_
  rw [hq]
  exact Ev.now _
 ·have hz := dv_eq_zero (by decide) h.nx
  have hX : dv 1000000000 x ≠ 0 := fun e => by rw [hz.1 e] at hx; exact hx rfl
  have hG : (Int.gcd (sg b (dv 1000000000 x)) (dv 1000000000 y) : Nat) = Int.gcd (dv 1000000000 x) (dv 1000000000 y) := by
   cases b <;> simp [sg, Int.neg_gcd]
  obtain ⟨s1, s2⟩ := Ra.sg_quo (na := b) (nb := false) (a := sg b (dv 1000000000 x)) (b := dv 1000000000 y) (A := dv 1000000000 x) (B := dv 1000000000 y) (G := (Int.gcd (sg b (dv 1000000000 x)) (dv 1000000000 y) : Nat)) rfl (by simp [sg]) hx0 hy0 rfl
  obtain ⟨t1, t2⟩ := rat_low (a := sg b (dv 1000000000 x)) (b := dv 1000000000 y) (by omega)
  rw [t1, ← h.eq] at s1
  rw [t2, ← h.eq] at s2
  have hbb : (!(b == false)) = b := by cases b <;> rfl
  rw [hbb, hG] at s1
  rw [hG] at s2
  refine Ev.congr (fun k => if_neg hx) ?_
  refine time_l _ ?_ _ x y h.nx h.ny (by omega) (by omega) (.inr hy0) rfl (Nat.le_refl _)
  intro u hu lu hup hug
  rw [← hug] at s1 s2
  have ex := Int.mul_ediv_add_emod (dv 1000000000 x) (dv 1000000000 u)
  obtain ⟨p1, p2, pe, pn1, pn2, pe1, pe2, pl1, pl2⟩ := over_f x u h.nx hu (by omega) (by omega) hup
  obtain ⟨o1, o2, oe, on1, on2, oe1, oe2, ol1, ol2⟩ := over_f y u h.ny hu (by omega) (by omega) hup
  have p0 : 0 ≤ dv 1000000000 p2 := dv_nonneg (by decide) pn2.dg
  have o0 : 0 ≤ dv 1000000000 o2 := dv_nonneg (by decide) on2.dg
  have hp := (Int.ediv_emod_unique (a := dv 1000000000 x) (b := dv 1000000000 u) (q := dv 1000000000 p1) (r := dv 1000000000 p2) hup).2 ⟨by rw [pe1, Int.add_comm, Int.mul_comm], p0, pe2⟩
  have ho := (Int.ediv_emod_unique (a := dv 1000000000 y) (b := dv 1000000000 u) (q := dv 1000000000 o1) (r := dv 1000000000 o2) hup).2 ⟨by rw [oe1, Int.add_comm, Int.mul_comm], o0, oe2⟩
  rw [hp.1] at s1
  rw [ho.1] at s2
  have q0 : 0 ≤ dv 1000000000 p1 := dv_nonneg (by decide) pn1.dg
  have hden : 1 ≤ (q.den : Int) := by have := q.den_pos; omega
  have sm1 := small_f p1 1152921504606846976 pn1 (by omega) (by decide) (by decide)
  have sm2 := small_f o1 1152921504606846976 on1 (by omega) (by decide) (by decide)
  have bad : ¬ (dv 1000000000 p1 ≤ 1152921504606846976 ∧ dv 1000000000 o1 ≤ 1152921504606846976) → tmV q = ((0, 0), 2) := by
   intro hh
   unfold tmV
   refine if_neg fun hv => hh ?_
   unfold Ea.valid at hv
   simp only [Bool.and_eq_true, decide_eq_true_eq] at hv
   rw [← s1, ← s2] at hv
   cases b <;> simp [sg] at hv <;> omega
  refine Ev.step (fun k => by rw [dioramaref02_Time.l0]) (Ev.congr (fun k => if_neg (show ¬ ((([] : List Int).length : Int) > 0) by simp)) (Ev.bind pe (Ev.bind oe (Ev.bind sm1 (Ev.bind sm2 ?_)))))
  by_cases h1 : 1152921504606846976 < dv 1000000000 p1
  ·rw [if_pos h1, bad (by omega)]
   refine Ev.congr (fun k => if_neg (show ¬ (false = true) by decide)) (Ev.step (fun k => by rw [dioramaref02_Time.j1]) (Ev.congr (fun k => if_pos rfl) (Ev.now _)))
  ·rw [if_neg h1]
   refine Ev.congr (fun k => if_pos rfl) ?_
   by_cases h2 : 1152921504606846976 < dv 1000000000 o1
   ·rw [if_pos h2, bad (by omega)]
    exact Ev.step (fun k => by rw [dioramaref02_Time.j1]) (Ev.congr (fun k => if_pos (show (!false) = true from rfl)) (Ev.now _))
   ·rw [if_neg h2]
    have hv : tmV q = ((q.num, (q.den : Int)), 0) := by
     unfold tmV
     refine if_pos ?_
     unfold Ea.valid
     simp only [Bool.and_eq_true, decide_eq_true_eq]
     rw [← s1, ← s2]
     rw [← s2] at hden
     cases b <;> simp [sg] <;> omega
    rw [hv, ← s1, ← s2]
    refine Ev.step (fun k => by rw [dioramaref02_Time.j1]) (Ev.congr (fun k => if_neg (show ¬ (!true) = true by decide)) ?_)
    cases b with
    | false => exact Ev.congr (fun k => if_neg (by decide)) (Ev.now _)
    | true =>
     refine Ev.congr (fun k => if_pos rfl) ?_
     rw [w64 (by omega) (by omega)]
     exact Ev.now _
end Go.Proofs.Ytpbhepdgamoiaaa.Qt
namespace Go.Proofs.Ytpbhepdgamoiaaa.Qm
open Go.RowKit Go Go.Proofs.YtpbhepdgamoiaaaW.PrintWords Go.Proofs.YtpbhepdgamoiaaaW.PrintLast Go.Proofs.YtpbhepdgamoiaaaW.PrintMore Go.Proofs.Ytpbhepdgamoiaaa.Ml Go.Proofs.Ytpbhepdgamoiaaa.Mn Go.Proofs.Ytpbhepdgamoiaaa.Nd Go.Proofs.Ytpbhepdgamoiaaa.Pa Go.Proofs.Ytpbhepdgamoiaaa.Pb Go.Proofs.Ytpbhepdgamoiaaa.Pc Go.Proofs.Ytpbhepdgamoiaaa.Rf Go.Proofs.Ytpbhepdgamoiaaa.Er Go.Proofs.Ytpbhepdgamoiaaa.Ek Go.Proofs.Ytpbhepdgamoiaaa.Et Go.Proofs.Ytpbhepdgamoiaaa.E Go.Proofs.Ytpbhepdgamoiaaa.Pe Go.Proofs.Ytpbhepdgamoiaaa.Pf Go.Proofs.Ytpbhepdgamoiaaa.Qr Go.Proofs.Ytpbhepdgamoiaaa.Qn Go.Proofs.Ytpbhepdgamoiaaa.Qw Go.Proofs.Ytpbhepdgamoiaaa.Qt
set_option linter.unusedVariables false
set_option linter.unusedSimpArgs false
def RM (w : World) (v : Value) (q : Rat) (n : Nat) : Prop := ∃ (b : Bool) (A1 : Option Addr) (c1 : Nat) (l1 : List Int) (A2 : Option Addr) (c2 : Nat) (l2 : List Int), v = .agg #[.bool b, .slice A1 l1.length c1, .slice A2 l2.length c2] ∧ Kd.V (Kd.int .i64) 3 w 0 (fun _ => True) (.slice A1 l1.length c1) l1 ∧ Kd.V (Kd.int .i64) 3 w 0 (fun _ => True) (.slice A2 l2.length c2) l2 ∧ RV b l1 l2 q n
theorem RM.below {w w' : World} {v : Value} {q : Rat} {n : Nat} (h : RM w v q n) (hb : Below w.heap.size w w') : RM w' v q n := by
 obtain ⟨b, A1, c1, l1, A2, c2, l2, rfl, h1, h2, hv⟩ := h
 exact ⟨b, A1, c1, l1, A2, c2, l2, rfl, Kd.V_below h1 hb, Kd.V_below h2 hb, hv⟩
theorem RM.of {w : World} {B : Nat} {o1 o2 : Nat → Prop} {b : Bool} {v1 v2 : Value} {x y : List Int} {q : Rat} {n : Nat} (h1 : Kd.R (Kd.int .i64) 3 w B o1 v1 x) (h2 : Kd.R (Kd.int .i64) 3 w B o2 v2 y) (hv : RV b x y q n) : RM w (.agg #[.bool b, v1, v2]) q n := by
 obtain ⟨A1, c1, rfl⟩ := Kd.R_slice h1
 obtain ⟨A2, c2, rfl⟩ := Kd.R_slice h2
 exact ⟨b, A1, c1, x, A2, c2, y, rfl, Kd.V_mono (Kd.R_V h1) (fun _ _ => trivial), Kd.V_mono (Kd.R_V h2) (fun _ _ => trivial), hv⟩
theorem ratOf_f (n d : Int) (hn : -9223372036854775807 ≤ n) (hn1 : n ≤ 9223372036854775807) (hd : 0 < d) (hd1 : d ≤ 9223372036854775807) : RE (fun k => dioramaref02_RatOf.f k n d) (qq n d) 3 := by
 obtain ⟨y, ey, ny, vy, ly⟩ := of_f d (by omega) hd1
 by_cases h : n < 0
 ·obtain ⟨x, ex, nx, vx, lx⟩ := of_f (-n) (by omega) (by omega)
  have hs : Ev (fun k => dioramaref02_size.f k n) x := by
   refine Ev.congr (fun k => if_pos h) ?_
   rw [w64 (by omega) (by omega)]
   exact Ev.bind ex (Ev.now _)
  refine ⟨decide (n < 0), x, y, Ev.congr (fun k => rfl) (Ev.bind hs (Ev.bind ey (Ev.now _))), ⟨nx, ny, by rw [vy]; exact hd, ?_, lx, ly⟩⟩
  rw [vx, vy, decide_eq_true h]
  simp [sg]
 ·obtain ⟨x, ex, nx, vx, lx⟩ := of_f n (by omega) hn1
  have hs : Ev (fun k => dioramaref02_size.f k n) x := Ev.congr (fun k => if_neg h) (Ev.bind ex (Ev.now _))
  refine ⟨decide (n < 0), x, y, Ev.congr (fun k => rfl) (Ev.bind hs (Ev.bind ey (Ev.now _))), ⟨nx, ny, by rw [vy]; exact hd, ?_, lx, ly⟩⟩
  rw [vx, vy, decide_eq_false h]
  simp [sg]
end Go.Proofs.Ytpbhepdgamoiaaa.Qm
namespace Go.Proofs.Ytpbhepdgamoiaaa.Tv
open Go.RowKit Go Go.Proofs.YtpbhepdgamoiaaaW.PrintWords Go.Proofs.YtpbhepdgamoiaaaW.PrintLast Go.Proofs.YtpbhepdgamoiaaaW.PrintMore Go.Proofs.Ytpbhepdgamoiaaa.Rf Go.Proofs.Ytpbhepdgamoiaaa.Er Go.Proofs.Ytpbhepdgamoiaaa.Ek Go.Proofs.Ytpbhepdgamoiaaa.Et Go.Proofs.Ytpbhepdgamoiaaa.E Go.Proofs.Ytpbhepdgamoiaaa.Pe Go.Proofs.Ytpbhepdgamoiaaa.Pf Go.Proofs.Ytpbhepdgamoiaaa.Pg Go.Proofs.Ytpbhepdgamoiaaa.Qr Go.Proofs.Ytpbhepdgamoiaaa.Qn Go.Proofs.Ytpbhepdgamoiaaa.Qt Go.Proofs.Ytpbhepdgamoiaaa.Qm Go.Proofs.Ytpbhepdgamoiaaa.Cl Go.Proofs.Ytpbhepdgamoiaaa.Nm Go.Proofs.Ytpbhepdgamoiaaa.Sw
set_option linter.unusedVariables false
set_option linter.unusedSimpArgs false
theorem valid_is {n d : Int} (h : Ea.valid n d = true) : (-1152921504606846976 ≤ n ∧ n ≤ 1152921504606846976) ∧ 1 ≤ d ∧ d ≤ 1152921504606846976 := by
 unfold Ea.valid at h
 simp only [Bool.and_eq_true, decide_eq_true_eq] at h
 omega
theorem ratOf_v {n d : Int} (h : Ea.valid n d = true) : RE (fun k => dioramaref02_RatOf.f k n d) (qq n d) 3 := by
 have := valid_is h
 exact ratOf_f n d (by omega) (by omega) (by omega) (by omega)
theorem tm_ok {q : Rat} (h : (tmV q).2 = 0) : Ea.valid (tmV q).1.1 (tmV q).1.2 = true ∧ qq (tmV q).1.1 (tmV q).1.2 = q := by
 unfold tmV at h ⊢
 by_cases hv : Ea.valid q.num q.den = true
 ·rw [if_pos hv]
  exact ⟨hv, Rat.num_divInt_den q⟩
 ·rw [if_neg hv] at h
  cases h
def rtB (a : Int) : Bool := decide (-1099511627776 ≤ a) && decide (a ≤ 1099511627776)
theorem rtick_f (a : Int) : dioramaref02_isTick.f a = some (rtB a) := by
 unfold dioramaref02_isTick.f rtB
 by_cases h : a ≥ -1099511627776
 ·rw [if_pos h, decide_eq_true (show -1099511627776 ≤ a from h), Bool.true_and]
 ·rw [if_neg h, decide_eq_false (show ¬ -1099511627776 ≤ a from h), Bool.false_and]
theorem r2scale_f (a : Int) : dioramaref02_isScale.f a = some (scB a) := scale_f a
def frmV (a s : Int) : (Int × Int) × Int := if rtB a = true ∧ scB s = true then tmV (qq a s) else ((0, 0), 1)
theorem From_f (a s : Int) : Ev (fun k => dioramaref02_From.f k a s) ((frmV a s).1.1, (frmV a s).1.2, (frmV a s).2) := by
 have off : ¬ (rtB a = true ∧ scB s = true) → Ev (fun k => dioramaref02_From.j0 k a s true) ((frmV a s).1.1, (frmV a s).1.2, (frmV a s).2) := by
  intro h
  refine Ev.step (fun k => by rw [dioramaref02_From.j0]) (Ev.congr (fun k => if_pos rfl) ?_)
  unfold frmV
  rw [if_neg h]
  exact Ev.now _
 have hf : ∀ k, dioramaref02_From.f k a s = if rtB a = true then dioramaref02_From.j0 k a s (!scB s) else dioramaref02_From.j0 k a s true := by
  intro k
  unfold dioramaref02_From.f
  rw [rtick_f, r2scale_f]
  simp only [Option.bind_some]
 refine Ev.congr hf ?_
 by_cases h1 : rtB a = true
 ·refine Ev.congr (fun k => if_pos h1) ?_
  by_cases h2 : scB s = true
  ·rw [h2]
   refine Ev.step (fun k => by rw [dioramaref02_From.j0]) (Ev.congr (fun k => if_neg (by decide)) ?_)
   have h3 := h1
   have h4 := h2
   unfold rtB at h3
   unfold scB at h4
   simp only [Bool.and_eq_true, decide_eq_true_eq] at h3 h4
   obtain ⟨b1, x1, y1, e1, v1⟩ := ratOf_f a s (by omega) (by omega) (by omega) (by omega)
   have e4 := time_f v1 (by decide)
   unfold frmV
   rw [if_pos ⟨h1, h2⟩]
   exact Ev.bind e1 (Ev.bind e4 (Ev.now _))
  ·rw [show scB s = false by simpa using h2]
   exact off (fun h => h2 h.2)
 ·exact Ev.congr (fun k => if_neg h1) (off (fun h => h1 h.1))
theorem frm_ok {a s : Int} (h : (frmV a s).2 = 0) : Ea.valid (frmV a s).1.1 (frmV a s).1.2 = true ∧ qq (frmV a s).1.1 (frmV a s).1.2 = qq a s := by
 unfold frmV at h ⊢
 by_cases hv : rtB a = true ∧ scB s = true
 ·rw [if_pos hv] at h ⊢
  exact tm_ok h
 ·rw [if_neg hv] at h
  cases h
theorem num_neg {n d : Int} (hd : 0 < d) : qq n d < 0 ↔ n < 0 := by
 rw [show (0 : Rat) = qq 0 1 from (qq_zero 1).symm, qq_lt hd (by decide)]
 omega
end Go.Proofs.Ytpbhepdgamoiaaa.Tv
namespace Go.Proofs.Ytpbhepdgamoiaaa.Ch
open Go.RowKit Go Go.Proofs.YtpbhepdgamoiaaaW.PrintWords Go.Proofs.YtpbhepdgamoiaaaW.PrintLast Go.Proofs.YtpbhepdgamoiaaaW.PrintMore Go.Proofs.Ytpbhepdgamoiaaa.Mn Go.Proofs.Ytpbhepdgamoiaaa.Rf Go.Proofs.Ytpbhepdgamoiaaa.Er Go.Proofs.Ytpbhepdgamoiaaa.Ek Go.Proofs.Ytpbhepdgamoiaaa.Et Go.Proofs.Ytpbhepdgamoiaaa.E Go.Proofs.Ytpbhepdgamoiaaa.Pe Go.Proofs.Ytpbhepdgamoiaaa.Pf Go.Proofs.Ytpbhepdgamoiaaa.Pg Go.Proofs.Ytpbhepdgamoiaaa.Qr Go.Proofs.Ytpbhepdgamoiaaa.Qn Go.Proofs.Ytpbhepdgamoiaaa.Qt Go.Proofs.Ytpbhepdgamoiaaa.Qm Go.Proofs.Ytpbhepdgamoiaaa.Nm Go.Proofs.Ytpbhepdgamoiaaa.Sw Go.Proofs.Ytpbhepdgamoiaaa.Jn Go.Proofs.Ytpbhepdgamoiaaa.Rp Go.Proofs.Ytpbhepdgamoiaaa.Tv Go.Proofs.Ytpbhepdgamoiaaa.Oe
set_option linter.unusedVariables false
set_option linter.unusedSimpArgs false
def subV (n d n' d' : Int) : (Int × Int) × Int := if Ea.valid n d = true ∧ Ea.valid n' d' = true then tmV (qq n d - qq n' d') else ((0, 0), 4)
theorem Sub_f (n d n' d' : Int) : Ev (fun k => dioramaref02_Sub.f k n d n' d') ((subV n d n' d').1.1, (subV n d n' d').1.2, (subV n d n' d').2) := by
 have off : ¬ (Ea.valid n d = true ∧ Ea.valid n' d' = true) → Ev (fun k => dioramaref02_Sub.j0 k true n d n' d') ((subV n d n' d').1.1, (subV n d n' d').1.2, (subV n d n' d').2) := by
  intro h
  refine Ev.step (fun k => by rw [dioramaref02_Sub.j0]) (Ev.congr (fun k => if_pos rfl) ?_)
  unfold subV
  rw [if_neg h]
  exact Ev.now _
 have hf : ∀ k, dioramaref02_Sub.f k n d n' d' = if Ea.valid n d = true then dioramaref02_Sub.j0 k (!Ea.valid n' d') n d n' d' else dioramaref02_Sub.j0 k true n d n' d' := by
  intro k
  unfold dioramaref02_Sub.f
  rw [rvalid_f, rvalid_f]
  simp only [Option.bind_some]
 refine Ev.congr hf ?_
 by_cases h1 : Ea.valid n d = true
 ·refine Ev.congr (fun k => if_pos h1) ?_
  by_cases h2 : Ea.valid n' d' = true
  ·rw [h2]
   refine Ev.step (fun k => by rw [dioramaref02_Sub.j0]) (Ev.congr (fun k => if_neg (by decide)) ?_)
   obtain ⟨b1, x1, y1, e1, v1⟩ := ratOf_v h1
   obtain ⟨b2, x2, y2, e2, v2⟩ := ratOf_v h2
   obtain ⟨b3, x3, y3, e3, v3⟩ := sumR_f v1 v2.neg (by decide)
   have e4 := time_f v3 (by decide)
   rw [← Rat.sub_eq_add_neg] at e4
   unfold subV
   rw [if_pos ⟨h1, h2⟩]
   exact Ev.bind e2 (Ev.bind e1 (Ev.bind e3 (Ev.bind e4 (Ev.now _))))
  ·rw [show Ea.valid n' d' = false by simpa using h2]
   exact off (fun h => h2 h.2)
 ·exact Ev.congr (fun k => if_neg h1) (off (fun h => h1 h.1))
theorem sub_ok {n d n' d' : Int} (h : (subV n d n' d').2 = 0) : Ea.valid (subV n d n' d').1.1 (subV n d n' d').1.2 = true ∧ qq (subV n d n' d').1.1 (subV n d n' d').1.2 = qq n d - qq n' d' := by
 unfold subV at h ⊢
 by_cases hv : Ea.valid n d = true ∧ Ea.valid n' d' = true
 ·rw [if_pos hv] at h ⊢
  exact tm_ok h
 ·rw [if_neg hv] at h
  cases h
theorem med_shift {ms ts : Int} (hm : 0 < ms) {q : Rat} (c : Int) : ∀ (l : List Ed) (b : Int), medL ms ts q (b + c) l = medL ms ts (q - qq c ms) b l
 | [], _ => rfl
 | x :: t, b => by
  have ih := med_shift (ts := ts) hm (q := q) c t (b + x.f0)
  rw [med_cons, med_cons, show b + c + x.f0 = b + x.f0 + c by omega, ih]
  have e : ∀ z : Int, (q < qq (z + c) ms ↔ q - qq c ms < qq z ms) := by
   intro z
   rw [qq_add1 (by omega)]
   constructor <;> intro h <;> grind
  have e2 : q - qq (b + c) ms = q - qq c ms - qq b ms := by
   rw [qq_add1 (by omega)]
   grind
  rw [e2]
  by_cases h1 : q < qq (b + c) ms
  ·rw [if_pos h1, if_pos ((e b).1 h1)]
  ·rw [if_neg h1, if_neg (fun h => h1 ((e b).2 h))]
   by_cases h2 : q < qq (b + x.f0 + c) ms
   ·rw [if_pos h2, if_pos ((e _).1 h2)]
   ·rw [if_neg h2, if_neg (fun h => h2 ((e _).2 h))]
theorem med_behind {ms ts : Int} (hm : 0 < ms) {q : Rat} (l m : List Ed) (hl : ∀ x ∈ l, 0 ≤ x.f0) (hl' : ∀ x ∈ m, 0 ≤ x.f0) : medL ms ts q 0 (l ++ m) = if q - qq (sumD l) ms < 0 then medL ms ts q 0 l else medL ms ts (q - qq (sumD l) ms) 0 m := by
 rw [med_app hm l m 0 hl hl', med_shift hm]
 rw [Int.zero_add]
 have e : q < qq (sumD l) ms ↔ q - qq (sumD l) ms < 0 := by
  constructor <;> intro h <;> grind
 by_cases h : q < qq (sumD l) ms
 ·rw [if_pos h, if_pos (e.1 h)]
 ·rw [if_neg h, if_neg (fun hc => h (e.2 hc))]
theorem sumD_rep : ∀ (c : Nat) (l : List Ed), sumD (rep c l) = c * sumD l
 | 0, l => by simp [rep, sumD]
 | c + 1, l => by
  rw [rep_succ, sumD_app, sumD_rep c l, Int.natCast_add, Int.add_mul]
  omega
theorem join_ok {ms ts : Int} {l m : List Ed} (h : (joinV ms ts l m).2 = 0) : chk l ms ts = 0 ∧ chk m ms ts = 0 ∧ (joinV ms ts l m).1 = nrm ms ts (l ++ m) ∧ chk (nrm ms ts (l ++ m)) ms ts = 0 := by
 unfold joinV at h ⊢
 by_cases h0 : chk l ms ts = 0
 ·rw [if_pos h0] at h ⊢
  by_cases h1 : chk m ms ts = 0
  ·rw [if_pos h1] at h ⊢
   obtain ⟨hc, a2, a3, a4⟩ := chk_ok.1 h0
   obtain ⟨_, b2, b3, b4⟩ := chk_ok.1 h1
   obtain ⟨e1, e2, e3⟩ := Nm.nrmV_ok hc (fun x hx => (List.mem_append.1 hx).elim (a3 x) (b3 x)) h
   rw [e1]
   exact ⟨h0, h1, rfl, e2⟩
  ·rw [if_neg h1] at h
   exact absurd h h1
 ·rw [if_neg h0] at h
  exact absurd h h0
theorem rep_ok {ms ts n : Int} {l : List Ed} (h : (repV ms ts n l).2 = 0) : chk l ms ts = 0 ∧ (repV ms ts n l).1 = nrm ms ts (rep n.toNat l) ∧ chk (nrm ms ts (rep n.toNat l)) ms ts = 0 ∧ sumD (rep n.toNat l) ≤ 1099511627776 := by
 unfold repV at h ⊢
 by_cases h0 : chk l ms ts = 0
 ·rw [if_pos h0] at h ⊢
  by_cases h1 : n < 0 ∨ 100 < n
  ·rw [if_pos h1] at h
   cases h
  ·rw [if_neg h1] at h ⊢
   obtain ⟨hc, a2, a3, a4⟩ := chk_ok.1 h0
   obtain ⟨e1, e2, e3⟩ := Nm.nrmV_ok hc (fun x hx => a3 x (rep_mem x hx)) h
   rw [e1]
   exact ⟨h0, rfl, e2, e3⟩
 ·rw [if_neg h0] at h
  exact absurd h h0
theorem pure_Ch (l m : List Ed) (ms ts n d : Int) (hw : ∀ x ∈ l, in64 x.f0 = true) : Ev (fun k => dioramalaw10_EditChains.f k l ms ts m n d) true := by
 have aw : Ev (fun k => (dioramalaw10_awake.f k).bind fun t => (some t)) true := Ev.bind awake_f (Ev.now _)
 have off : Ev (fun k => dioramalaw10_EditChains.j0 k m true l ms ts n d) true := Ev.step (fun k => by rw [dioramalaw10_EditChains.j0]) (Ev.congr (fun k => if_pos rfl) aw)
 refine Ev.congr (f := fun k => if 60 < l.length then (dioramalaw10_EditChains.j0 k m true l ms ts n d) else (if 60 < m.length then (dioramalaw10_EditChains.j0 k m true l ms ts n d) else (dioramalaw10_EditChains.j0 k m (!Ea.valid n d) l ms ts n d))) (fun k => ?_) ?_
 ·unfold dioramalaw10_EditChains.f
  rw [many_f, many_f, rvalid_f]
  simp only [Option.bind_some, decide_eq_true_eq]
 by_cases h1 : 60 < l.length
 ·exact Ev.congr (fun k => if_pos h1) off
 refine Ev.congr (fun k => if_neg h1) ?_
 by_cases h2 : 60 < m.length
 ·exact Ev.congr (fun k => if_pos h2) off
 refine Ev.congr (fun k => if_neg h2) ?_
 by_cases hv : Ea.valid n d = true
 case neg =>
  rw [show Ea.valid n d = false by simpa using hv]
  exact off
 rw [hv]
 have hL := Length_f l (by omega) hw
 refine Ev.step (fun k => by rw [dioramalaw10_EditChains.j0]) (Ev.congr (fun k => if_neg (by decide)) ?_)
 rw [hL]
 unfold edit_Join.f edit_Repeat.f
 simp only [Option.bind_some]
 refine Ev.bind (From_f (lenB (sumD l)) ms) ?_
 by_cases h3 : (frmV (lenB (sumD l)) ms).2 = 0
 case neg => exact Ev.congr (fun k => if_neg h3) aw
 obtain ⟨v3, q3⟩ := frm_ok h3
 refine Ev.congr (fun k => if_pos h3) (Ev.bind (Sub_f n d (frmV (lenB (sumD l)) ms).1.1 (frmV (lenB (sumD l)) ms).1.2) ?_)
 by_cases h4 : (subV n d (frmV (lenB (sumD l)) ms).1.1 (frmV (lenB (sumD l)) ms).1.2).2 = 0
 case neg => exact Ev.congr (fun k => if_neg h4) aw
 obtain ⟨v4, q4⟩ := sub_ok h4
 rw [q3] at q4
 refine Ev.congr (fun k => if_pos h4) ?_
 simp only
 generalize (subV n d (frmV (lenB (sumD l)) ms).1.1 (frmV (lenB (sumD l)) ms).1.2).1.1 = ln at *
 generalize (subV n d (frmV (lenB (sumD l)) ms).1.1 (frmV (lenB (sumD l)) ms).1.2).1.2 = ld at *
 have hld : 0 < ld := by have := valid_is v4; omega
 have hneg := num_neg (n := ln) hld
 have hlen : chk l ms ts = 0 → lenB (sumD l) = sumD l := by
  intro h
  obtain ⟨_, _, a3, a4⟩ := chk_ok.1 h
  have := sum0 l (fun x hx => by have := (a3 x hx).d0; omega)
  unfold lenB
  rw [if_neg (by omega), if_neg (by omega)]
 have hj2 : Ev (fun k => dioramalaw10_EditChains.j2 k (repV ms ts 3 l).1 (repV ms ts 3 l).2 l ms ts n d ln ld) true := by
  refine Ev.step (fun k => by rw [dioramalaw10_EditChains.j2]) ?_
  by_cases h5 : (repV ms ts 3 l).2 = 0
  case neg => exact Ev.congr (fun k => if_neg h5) aw
  obtain ⟨r1, r2, r3, r4⟩ := rep_ok h5
  obtain ⟨hc, a2, a3, a4⟩ := chk_ok.1 r1
  have hm : 0 < ms := by have := hc.m0; omega
  have p0 : ∀ c, ∀ x ∈ rep c l, 0 ≤ x.f0 := fun c x hx => by have := (a3 x (rep_mem x hx)).d0; omega
  have p1 : ∀ x ∈ l, 0 ≤ x.f0 := fun x hx => by have := (a3 x hx).d0; omega
  have hmed : ∀ q, medL ms ts q 0 (nrm ms ts (rep 3 l)) = if q - qq (sumD l) ms < 0 then medL ms ts q 0 l else medL ms ts (q - qq (sumD l) ms) 0 (rep 2 l) := by
   intro q
   rw [nrm_med hc (fun x hx => a3 x (rep_mem x hx)), rep_succ]
   exact med_behind hm _ _ p1 (p0 2)
  rw [hlen r1] at q4
  refine Ev.congr (fun k => if_pos h5) ?_
  rw [r2]
  rw [show (3 : Int).toNat = 3 from rfl] at r3 r4 ⊢
  have hj4 : Ev (fun k => dioramalaw10_EditChains.j4 k false l ms ts n d ln ld (nrm ms ts (rep 3 l)) ms ts) true := by
   refine Ev.step (fun k => by rw [dioramalaw10_EditChains.j4]) (Ev.congr (fun k => if_neg (by decide)) ?_)
   unfold edit_Repeat.f
   simp only [Option.bind_some]
   by_cases h6 : ln ≥ 0
   ·refine Ev.congr (fun k => if_pos h6) ?_
    by_cases h7 : (repV ms ts 2 l).2 = 0
    ·obtain ⟨s1, s2, s3, s4⟩ := rep_ok h7
     rw [show (2 : Int).toNat = 2 from rfl] at s2 s3
     refine Ev.congr (fun k => if_pos h7) ?_
     rw [s2, shows_f r3 s3 hv v4 (by
      rw [hmed, if_neg (by rw [← q4, hneg]; omega), nrm_med hc (fun x hx => a3 x (rep_mem x hx)), q4])]
     simp only [Option.bind_some]
     exact Ev.congr (fun k => if_pos (by first | trivial | rfl)) aw
    ·exact Ev.congr (fun k => if_neg h7) aw
   ·exact Ev.congr (fun k => if_neg h6) aw
  have hj3 : Ev (fun k => dioramalaw10_EditChains.j3 k (nrm ms ts (rep 3 l)) false l ms ts n d ln ld (nrm ms ts (rep 3 l)) ms ts) true := by
   refine Ev.step (fun k => by rw [dioramalaw10_EditChains.j3]) (Ev.congr (fun k => if_neg (by decide)) ?_)
   by_cases h6 : ln ≥ 0
   ·refine Ev.congr (fun k => if_pos h6) ?_
    have e3 : sumD (rep 3 l) = 3 * sumD l := sumD_rep 3 l
    have e0 := sum0 l p1
    obtain ⟨_, b2, b3, b4⟩ := chk_ok.1 r3
    rw [hL, hlen r1, Length_f _ (by omega) (fun x hx => in64_iff.2 (by have := (b3 x hx).d0; have := (b3 x hx).d1; exact ⟨by omega, by omega⟩)), nrm_sum, e3]
    simp only [Option.bind_some]
    rw [show (lenB (3 * sumD l) != wrap64 (3 * sumD l)) = false by
     rw [w64 (by omega) (by omega)]
     unfold lenB
     rw [if_neg (by omega), if_neg (by omega)]
     simp]
    exact hj4
   ·exact Ev.congr (fun k => if_neg h6) hj4
  by_cases h6 : ln < 0
  ·refine Ev.congr (fun k => if_pos h6) ?_
   rw [shows_f r3 r1 hv hv (by rw [hmed, if_pos (by rw [← q4, hneg]; exact h6)])]
   simp only [Option.bind_some]
   exact hj3
  ·exact Ev.congr (fun k => if_neg h6) hj3
 by_cases h5 : (joinV ms ts l m).2 = 0
 case neg => exact Ev.congr (fun k => if_neg h5) hj2
 obtain ⟨r1, r2, r3, r4⟩ := join_ok h5
 obtain ⟨hc, a2, a3, a4⟩ := chk_ok.1 r1
 obtain ⟨_, b2, b3, b4⟩ := chk_ok.1 r2
 have hm : 0 < ms := by have := hc.m0; omega
 have p1 : ∀ x ∈ l, 0 ≤ x.f0 := fun x hx => by have := (a3 x hx).d0; omega
 have p2 : ∀ x ∈ m, 0 ≤ x.f0 := fun x hx => by have := (b3 x hx).d0; omega
 have hmed : ∀ q, medL ms ts q 0 (nrm ms ts (l ++ m)) = if q - qq (sumD l) ms < 0 then medL ms ts q 0 l else medL ms ts (q - qq (sumD l) ms) 0 m := by
  intro q
  rw [nrm_med hc (fun x hx => (List.mem_append.1 hx).elim (a3 x) (b3 x))]
  exact med_behind hm _ _ p1 p2
 rw [hlen r1] at q4
 refine Ev.congr (fun k => if_pos h5) ?_
 rw [r3]
 have hj1 : Ev (fun k => dioramalaw10_EditChains.j1 k m (repV ms ts 3 l).1 (repV ms ts 3 l).2 false l ms ts n d ln ld (nrm ms ts (l ++ m)) ms ts) true := by
  refine Ev.step (fun k => by rw [dioramalaw10_EditChains.j1]) (Ev.congr (fun k => if_neg (by decide)) ?_)
  by_cases h6 : ln ≥ 0
  ·refine Ev.congr (fun k => if_pos h6) ?_
   rw [shows_f r4 r2 hv v4 (by rw [hmed, if_neg (by rw [← q4, hneg]; omega), q4])]
   simp only [Option.bind_some]
   exact Ev.congr (fun k => if_pos (by first | trivial | rfl)) hj2
  ·exact Ev.congr (fun k => if_neg h6) hj2
 by_cases h6 : ln < 0
 ·refine Ev.congr (fun k => if_pos h6) ?_
  rw [shows_f r4 r1 hv hv (by rw [hmed, if_pos (by rw [← q4, hneg]; exact h6)])]
  simp only [Option.bind_some]
  exact hj1
 ·exact Ev.congr (fun k => if_neg h6) hj1
theorem walk_Ch (a : Option Addr) (len c : Nat) (l : List Ed) (ms ts : Int) (a1 : Option Addr) (len1 c1 : Nat) (l1 : List Ed) (n d : Int) (w : World) (h : Eds w a len c l) (_ : (Lit.int .i64 ms).wf = true) (_ : (Lit.int .i64 ts).wf = true) (h1 : Eds w a1 len1 c1 l1) (_ : (Lit.int .i64 n).wf = true) (_ : (Lit.int .i64 d).wf = true) :
  Calls Try.prog 18 #[.agg #[.slice a len c, .int .i64 ms, .int .i64 ts], .slice a1 len1 c1, .agg #[.int .i64 n, .int .i64 d]] w (fun e w' => e = .returned (.bool true) ∧ Below w.heap.size w w') := by
 obtain ⟨k, hk⟩ := (pure_Ch l l1 ms ts n d (fun x hx => in64_wf (h.w x hx).d)).rounds
 rw [← h.n, ← h1.n]
 exact dioramalaw10_EditChains.calls k a c l ms ts a1 c1 l1 n d true w h.c h.h h1.c h1.h hk
end Go.Proofs.Ytpbhepdgamoiaaa.Ch
namespace Go.Proofs.Ytpbhepdgamoiaaa.editChainsRow
open Go.ChangeShapes Go.WideShapes Go.ChangeAt Go.RowKit Go.Proofs.Ytpbhepdgamoiaaa.Oe
set_option linter.unusedVariables false
set_option maxRecDepth 100000 in
theorem lifted (os : Os) (started : os.Started) (H : Type) (enc : TypeId × Value → H) :
  ReturnsInHanded {} Try.checked os 18 .any (Rows.editChainsSpec.pre6 enc Try.prog Try.f18 Rows.editChainsRow.domain false) (Rows.editChainsSpec.post enc Try.prog Try.f18 false true false false) := by
 refine returnsInHanded_of_change_sized (C := Try.checked) own started (by kernel_rfl) Try.func18
  (ChangeSpec.witness6 (enc := enc) (C := Try.checked) false ⟨#[], #[.agg #[.slice none 0 0, .int .i64 0, .int .i64 0], .slice none 0 0, .agg #[.int .i64 0, .int .i64 0]], []⟩ 8 (by kernel_rfl) (by kernel_rfl) (by kernel_rfl) (by kernel_rfl)) ?_
 intro W base args ds gs before hval0 hW hcnd hsz0 _
 have hval : ∀ (j : Nat) t v, Try.f18.params[j]? = some t → args[j]? = some v → Value.okWide Try.prog W .any base t v := hval0
 have hW' := hW
 obtain ⟨p, q, hA0, hV, rfl, hfz, hnd⟩ := hW
 have hA : DataW.TrodAll enc Try.prog W 0 (fun _ => true) true Try.f18.params.toList args.toList ds p := hA0
 rw [Try.params18] at hA hval
 obtain ⟨v0, vs0, d0, ds0, p0, q0, hargs, rfl, rfl, h0, r0⟩ := trodAll_cons hA
 obtain ⟨v1, vs1, d1, ds1, p1, q1, rfl, rfl, rfl, h1, r1⟩ := trodAll_cons r0
 obtain ⟨v2, vs2, d2, ds2, p2, q2, rfl, rfl, rfl, h2, r2⟩ := trodAll_cons r1
 obtain ⟨rfl, rfl, rfl⟩ := trodAll_nil r2
 obtain rfl : args = #[v0, v1, v2] := by cases args; simp_all
 obtain ⟨rfl, rfl⟩ := trodVars_none hV
 have k0 := h0
 have lt0 : ∀ x ∈ p0, x.block < W.heap.size := by obtain ⟨m, hm⟩ := k0; exact DataW.trod_lt m _ _ _ hm
 obtain ⟨a0, len0, cap0, z0, m0, t0, rfl, w0, wm0, wt0⟩ := open_list (hval 0 24 v0 rfl rfl) h0
 have k1 := h1
 have lt1 : ∀ x ∈ p1, x.block < W.heap.size := by obtain ⟨m, hm⟩ := k1; exact DataW.trod_lt m _ _ _ hm
 obtain ⟨a1, len1, cap1, z1, rfl, w1⟩ := open_edits (hval 1 22 v1 rfl rfl) h1
 have k2 := h2
 have lt2 : ∀ x ∈ p2, x.block < W.heap.size := by obtain ⟨m, hm⟩ := k2; exact DataW.trod_lt m _ _ _ hm
 obtain ⟨a2_0, a2_1, rfl, w2_0, w2_1⟩ := open_time (hval 2 37 v2 rfl rfl) h2
 clear hA0 hval0 hsz0
 refine (Ch.walk_Ch a0 len0 cap0 z0 m0 t0 a1 len1 cap1 z1 a2_0 a2_1 W w0 wm0 wt0 w1 w2_0 w2_1).mono fun e W' ⟨he, bel⟩ => ?_
 subst he
 exact ⟨_, rfl, _, _, _, [], _, [], hW', trodAll_mk1 (shut_bool Try.underlying4 _), (trodAll_cons_mk (Below.trod laidOut (by kernel_rfl) (of_decide_eq_true (by kernel_rfl)) k0 bel lt0) (trodAll_cons_mk (Below.trod laidOut (by kernel_rfl) (of_decide_eq_true (by kernel_rfl)) k1 bel lt1) (trodAll_cons_mk (Below.trod laidOut (by kernel_rfl) (of_decide_eq_true (by kernel_rfl)) k2 bel lt2) trodAll_mk0))), rfl, bel.frame _, fun h => by cases h⟩
theorem over : Rows.editChainsRow.holds Try.pinned (OpenSpec.ofChange Rows.editChainsSpec) :=
 OpenClaim.holds_of_wide 18 Try.f18 rfl rfl rfl rfl rfl rfl rfl ⟨rfl, rfl, rfl, rfl, rfl⟩ rfl rfl rfl rfl rfl (by kernel_rfl) Try.func18 (by kernel_rfl)
  (of_decide_eq_true (by kernel_rfl)) (by unfold Func.isWrapper; first | (rw [if_pos (by decide +kernel)]; kernel_rfl) | (rw [if_neg (by decide +kernel)]; exact ⟨rfl, rfl⟩))
  (fun os started H enc _ => lifted os started H enc)
end Go.Proofs.Ytpbhepdgamoiaaa.editChainsRow
namespace Go.Proofs.Ytpbhepdgamoiaaa
theorem editChains_holds : Rows.EditChainsSaid := editChainsRow.over
#print axioms editChains_holds
end Go.Proofs.Ytpbhepdgamoiaaa

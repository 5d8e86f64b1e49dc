/-
  EditInstants: for every input the law returns true. What a normal list shows, and how long it is. The reference's first error and length; lists compared. Two lists of edits with their errors, compared. EditFaster: a list that is so many times as fast is as the reference says. EditClocks: a list by other clocks is as the reference says. What a list by other clocks and a faster list show. Two lists that show the same are seen to. The reference's time of a rational number is its lowest form. The reference's rational numbers in memory: what its calls make of them. The reference's sums of times, and times of ticks. When a list shows a media time, and what it shows then. EditInstants: at each instant at which a media time is told to be shown it is shown. EditInstants: for every input the law returns true.
-/
import Derived.Test.YtpbhepdgamoiaaaQREditInstantsf
import Derived.Test.YtpbhepdgamoiaaaQREditInstantsc
import Derived.Outline
import Derived.Test.YtpbhepdgamoiaaaQREditInstantse
import Derived.Test.YtpbhepdgamoiaaaRows
import Derived.WalkKit
import Derived.ProofKit
import Derived.OpenShut
import Derived.ChangeOld
import Derived.Below
import Derived.SizedLaws
import Derived.Carry
namespace Go.Proofs.Ytpbhepdgamoiaaa.Nm
open Go.RowKit Go Go.Proofs.Ytpbhepdgamoiaaa.Rf Go.Proofs.Ytpbhepdgamoiaaa.Er Go.Proofs.Ytpbhepdgamoiaaa.Ek Go.Proofs.Ytpbhepdgamoiaaa.Et Go.Proofs.Ytpbhepdgamoiaaa.E Go.Proofs.Ytpbhepdgamoiaaa.Pe Go.Proofs.Ytpbhepdgamoiaaa.Pf Go.Proofs.Ytpbhepdgamoiaaa.Qr Go.Proofs.Ytpbhepdgamoiaaa.Qn Go.Proofs.Ytpbhepdgamoiaaa.Qw
set_option linter.unusedVariables false
set_option linter.unusedSimpArgs false
theorem qq_lt1 {a b c : Int} (hc : 0 < c) : qq a c < qq b c ↔ a < b := by
 rw [qq_lt hc hc]
 exact ⟨fun h => Int.lt_of_mul_lt_mul_right h (by omega), fun h => Int.mul_lt_mul_of_pos_right h hc⟩
theorem qq_zero (e : Int) : qq 0 e = 0 := by
 unfold qq
 simp
abbrev noV : (Int × Int) × Bool × Int := ((0, 1), false, 0)
def shV (ts : Int) (x : Ed) (p : Rat) : (Int × Int) × Bool × Int := if x.f1 < 0 then noV else ((tmV (qq x.f1 ts + p * qq x.f2 x.f3)).1, (tmV (qq x.f1 ts + p * qq x.f2 x.f3)).2 == 0, (tmV (qq x.f1 ts + p * qq x.f2 x.f3)).2)
theorem med_cons (ms ts : Int) (q : Rat) (b : Int) (x : Ed) (t : List Ed) : medL ms ts q b (x :: t) = if q < qq b ms then medL ms ts q (b + x.f0) t else if q < qq (b + x.f0) ms then shV ts x (q - qq b ms) else medL ms ts q (b + x.f0) t := rfl
end Go.Proofs.Ytpbhepdgamoiaaa.Nm
namespace Go.Proofs.Ytpbhepdgamoiaaa.Qp
open Go.RowKit Go Go.Proofs.YtpbhepdgamoiaaaW.PrintWords Go.Proofs.YtpbhepdgamoiaaaW.PrintLast Go.Proofs.YtpbhepdgamoiaaaW.PrintMore Go.Proofs.Ytpbhepdgamoiaaa.Ml Go.Proofs.Ytpbhepdgamoiaaa.Mn Go.Proofs.Ytpbhepdgamoiaaa.Nd Go.Proofs.Ytpbhepdgamoiaaa.Pa Go.Proofs.Ytpbhepdgamoiaaa.Pb Go.Proofs.Ytpbhepdgamoiaaa.Rf Go.Proofs.Ytpbhepdgamoiaaa.Er Go.Proofs.Ytpbhepdgamoiaaa.Ek Go.Proofs.Ytpbhepdgamoiaaa.E Go.Proofs.Ytpbhepdgamoiaaa.Pe Go.Proofs.Ytpbhepdgamoiaaa.Pf Go.Proofs.Ytpbhepdgamoiaaa.Pg Go.Proofs.Ytpbhepdgamoiaaa.Qr Go.Proofs.Ytpbhepdgamoiaaa.Qn Go.Proofs.Ytpbhepdgamoiaaa.Qo
set_option linter.unusedVariables false
set_option linter.unusedSimpArgs false
end Go.Proofs.Ytpbhepdgamoiaaa.Qp
namespace Go.Proofs.Ytpbhepdgamoiaaa.Qe
open Go.RowKit Go Go.Proofs.YtpbhepdgamoiaaaW.PrintWords Go.Proofs.YtpbhepdgamoiaaaW.PrintLast Go.Proofs.YtpbhepdgamoiaaaW.PrintMore Go.Proofs.Ytpbhepdgamoiaaa.Mn Go.Proofs.Ytpbhepdgamoiaaa.Er Go.Proofs.Ytpbhepdgamoiaaa.Ek Go.Proofs.Ytpbhepdgamoiaaa.E Go.Proofs.Ytpbhepdgamoiaaa.Pe Go.Proofs.Ytpbhepdgamoiaaa.Pf Go.Proofs.Ytpbhepdgamoiaaa.Pg
set_option linter.unusedVariables false
set_option linter.unusedSimpArgs false
end Go.Proofs.Ytpbhepdgamoiaaa.Qe
namespace Go.Proofs.Ytpbhepdgamoiaaa.Fr
open Go.RowKit Go Go.Proofs.YtpbhepdgamoiaaaW.PrintWords Go.Proofs.YtpbhepdgamoiaaaW.PrintLast Go.Proofs.YtpbhepdgamoiaaaW.PrintMore Go.Proofs.Ytpbhepdgamoiaaa.Mn Go.Proofs.Ytpbhepdgamoiaaa.Rf Go.Proofs.Ytpbhepdgamoiaaa.Er Go.Proofs.Ytpbhepdgamoiaaa.Ek Go.Proofs.Ytpbhepdgamoiaaa.E Go.Proofs.Ytpbhepdgamoiaaa.Pe Go.Proofs.Ytpbhepdgamoiaaa.Pf Go.Proofs.Ytpbhepdgamoiaaa.Pg Go.Proofs.Ytpbhepdgamoiaaa.Qr Go.Proofs.Ytpbhepdgamoiaaa.Qn Go.Proofs.Ytpbhepdgamoiaaa.Qo Go.Proofs.Ytpbhepdgamoiaaa.Qp Go.Proofs.Ytpbhepdgamoiaaa.Qe Go.Proofs.Ytpbhepdgamoiaaa.Qw Go.Proofs.Ytpbhepdgamoiaaa.Oe
set_option linter.unusedVariables false
set_option linter.unusedSimpArgs false
structure Rt (num den : Int) : Prop where
 n0 : 1 ≤ num
 n1 : num ≤ 1000
 d0 : 1 ≤ den
 d1 : den ≤ 1000
end Go.Proofs.Ytpbhepdgamoiaaa.Fr
namespace Go.Proofs.Ytpbhepdgamoiaaa.Cl
open Go.RowKit Go Go.Proofs.YtpbhepdgamoiaaaW.PrintWords Go.Proofs.YtpbhepdgamoiaaaW.PrintLast Go.Proofs.YtpbhepdgamoiaaaW.PrintMore Go.Proofs.Ytpbhepdgamoiaaa.Mn Go.Proofs.Ytpbhepdgamoiaaa.Rf Go.Proofs.Ytpbhepdgamoiaaa.Er Go.Proofs.Ytpbhepdgamoiaaa.Ek Go.Proofs.Ytpbhepdgamoiaaa.Ew Go.Proofs.Ytpbhepdgamoiaaa.E Go.Proofs.Ytpbhepdgamoiaaa.Pe Go.Proofs.Ytpbhepdgamoiaaa.Pf Go.Proofs.Ytpbhepdgamoiaaa.Pg Go.Proofs.Ytpbhepdgamoiaaa.Qr Go.Proofs.Ytpbhepdgamoiaaa.Qn Go.Proofs.Ytpbhepdgamoiaaa.Qo Go.Proofs.Ytpbhepdgamoiaaa.Qp Go.Proofs.Ytpbhepdgamoiaaa.Qe Go.Proofs.Ytpbhepdgamoiaaa.Qw Go.Proofs.Ytpbhepdgamoiaaa.Oe Go.Proofs.Ytpbhepdgamoiaaa.Fr
set_option linter.unusedVariables false
set_option linter.unusedSimpArgs false
def scB (a : Int) : Bool := decide (1 ≤ a) && decide (a ≤ 1000000)
theorem scale_f (a : Int) : edit_isScale.f a = some (scB a) := by
 unfold edit_isScale.f scB
 by_cases h : a ≥ 1
 ·rw [if_pos h, decide_eq_true (show 1 ≤ a from h), Bool.true_and]
 ·rw [if_neg h, decide_eq_false (show ¬ 1 ≤ a from h), Bool.false_and]
end Go.Proofs.Ytpbhepdgamoiaaa.Cl
namespace Go.Proofs.Ytpbhepdgamoiaaa.So
open Go.RowKit Go Go.Proofs.Ytpbhepdgamoiaaa.Rf Go.Proofs.Ytpbhepdgamoiaaa.Er Go.Proofs.Ytpbhepdgamoiaaa.Ek Go.Proofs.Ytpbhepdgamoiaaa.Et Go.Proofs.Ytpbhepdgamoiaaa.Ew Go.Proofs.Ytpbhepdgamoiaaa.E Go.Proofs.Ytpbhepdgamoiaaa.Pe Go.Proofs.Ytpbhepdgamoiaaa.Pf Go.Proofs.Ytpbhepdgamoiaaa.Qr Go.Proofs.Ytpbhepdgamoiaaa.Qn Go.Proofs.Ytpbhepdgamoiaaa.Qw Go.Proofs.Ytpbhepdgamoiaaa.Fr Go.Proofs.Ytpbhepdgamoiaaa.Cl Go.Proofs.Ytpbhepdgamoiaaa.Nm
set_option linter.unusedVariables false
set_option linter.unusedSimpArgs false
end Go.Proofs.Ytpbhepdgamoiaaa.So
namespace Go.Proofs.Ytpbhepdgamoiaaa.Sw
open Go.RowKit Go Go.Proofs.Ytpbhepdgamoiaaa.Rf Go.Proofs.Ytpbhepdgamoiaaa.Er Go.Proofs.Ytpbhepdgamoiaaa.Ek Go.Proofs.Ytpbhepdgamoiaaa.Et Go.Proofs.Ytpbhepdgamoiaaa.E Go.Proofs.Ytpbhepdgamoiaaa.Pe Go.Proofs.Ytpbhepdgamoiaaa.Pf Go.Proofs.Ytpbhepdgamoiaaa.Nm
set_option linter.unusedVariables false
set_option linter.unusedSimpArgs false
theorem medV_ok {l : List Ed} {ms ts n d : Int} (h : chk l ms ts = 0) (hv : Ea.valid n d = true) : medV l ms ts n d = medL ms ts (qq n d) 0 l := by
 unfold medV
 rw [if_pos h, if_pos hv]
theorem rvalid_f (n d : Int) : dioramaref02_Valid.f n d = some (Ea.valid n d) := by
 unfold dioramaref02_Valid.f Ea.valid
 by_cases h1 : d ≥ 1
 ·rw [if_pos h1, decide_eq_true (show 1 ≤ d from h1)]
  by_cases h2 : d ≤ 1152921504606846976
  ·rw [if_pos h2, decide_eq_true h2]
   by_cases h3 : n ≥ -1152921504606846976
   ·rw [if_pos h3, decide_eq_true (show -1152921504606846976 ≤ n from h3)]
    rfl
   ·rw [if_neg h3, decide_eq_false (show ¬ -1152921504606846976 ≤ n from h3)]
    rfl
  ·rw [if_neg h2, decide_eq_false h2]
   rfl
 ·rw [if_neg h1, decide_eq_false (show ¬ 1 ≤ d from h1)]
  rfl
end Go.Proofs.Ytpbhepdgamoiaaa.Sw
namespace Go.Proofs.Ytpbhepdgamoiaaa.Qt
open Go.RowKit Go Go.Proofs.YtpbhepdgamoiaaaW.PrintWords Go.Proofs.YtpbhepdgamoiaaaW.PrintLast Go.Proofs.YtpbhepdgamoiaaaW.PrintMore Go.Proofs.Ytpbhepdgamoiaaa.Ml Go.Proofs.Ytpbhepdgamoiaaa.Mn Go.Proofs.Ytpbhepdgamoiaaa.Nd Go.Proofs.Ytpbhepdgamoiaaa.Pa Go.Proofs.Ytpbhepdgamoiaaa.Pb Go.Proofs.Ytpbhepdgamoiaaa.Pc Go.Proofs.Ytpbhepdgamoiaaa.Rf Go.Proofs.Ytpbhepdgamoiaaa.Er Go.Proofs.Ytpbhepdgamoiaaa.Ek Go.Proofs.Ytpbhepdgamoiaaa.Et Go.Proofs.Ytpbhepdgamoiaaa.E Go.Proofs.Ytpbhepdgamoiaaa.Pe Go.Proofs.Ytpbhepdgamoiaaa.Pf Go.Proofs.Ytpbhepdgamoiaaa.Qr Go.Proofs.Ytpbhepdgamoiaaa.Qn Go.Proofs.Ytpbhepdgamoiaaa.Qw
set_option linter.unusedVariables false
set_option linter.unusedSimpArgs false
theorem time_l {b : Bool} {x y : List Int} (r : Int × Int × Int) (hfin : ∀ u, Nn u → u.length ≤ 1000 → 0 < dv 1000000000 u → dv 1000000000 u = (Int.gcd (dv 1000000000 x) (dv 1000000000 y) : Nat) → Ev (fun k => dioramaref02_Time.l0 k u [] b x y) r) :
  ∀ (m : Nat) (u v : List Int), Nn u → Nn v → u.length ≤ 1000 → v.length ≤ 1000 → (0 < dv 1000000000 u ∨ 0 < dv 1000000000 v) → Int.gcd (dv 1000000000 u) (dv 1000000000 v) = Int.gcd (dv 1000000000 x) (dv 1000000000 y) → (dv 1000000000 v).toNat ≤ m → Ev (fun k => dioramaref02_Time.l0 k u v b x y) r := by
 have zero : ∀ (u v : List Int), Nn u → Nn v → u.length ≤ 1000 → (0 < dv 1000000000 u ∨ 0 < dv 1000000000 v) → Int.gcd (dv 1000000000 u) (dv 1000000000 v) = Int.gcd (dv 1000000000 x) (dv 1000000000 y) → dv 1000000000 v = 0 → Ev (fun k => dioramaref02_Time.l0 k u v b x y) r := by
  intro u v hu hv lu hp hg h0
  obtain rfl := (dv_eq_zero (by decide) hv).1 h0
  have hz : dv 1000000000 [] = 0 := rfl
  rw [hz] at hg hp
  have hpu : 0 < dv 1000000000 u := by omega
  refine hfin u hu lu hpu ?_
  rw [← hg, Int.gcd_zero_right]
  omega
 intro m
 induction m with
 | zero =>
  intro u v hu hv lu lv hp hg hm
  have : 0 ≤ dv 1000000000 v := dv_nonneg (by decide) hv.dg
  exact zero u v hu hv lu hp hg (by omega)
 | succ m ih =>
  intro u v hu hv lu lv hp hg hm
  have hv0 : 0 ≤ dv 1000000000 v := dv_nonneg (by decide) hv.dg
  by_cases h0 : dv 1000000000 v = 0
  ·exact zero u v hu hv lu hp hg h0
  ·obtain ⟨r1, r2, he, n1, n2, e1, e2, l1, l2⟩ := over_f u v hu hv (by omega) (by omega) (by omega)
   have hr0 : 0 ≤ dv 1000000000 r2 := dv_nonneg (by decide) n2.dg
   have hl : (v.length : Int) > 0 := by
    cases v with
    | nil => exact absurd rfl h0
    | cons a t => simp
   refine Ev.step (fun k => by rw [dioramaref02_Time.l0]) (Ev.congr (fun k => if_pos hl) (Ev.bind he ?_))
   exact ih v r2 hv n2 lv (by omega) (.inl (by omega)) ((Ra.gcd_step e1).trans hg) (by omega)
theorem time_f {b : Bool} {x y : List Int} {q : Rat} {n : Nat} (h : RV b x y q n) (hn : n ≤ 1000) : Ev (fun k => dioramaref02_Time.f k b x y) ((tmV q).1.1, (tmV q).1.2, (tmV q).2) := by
 have lx := h.lx
 have ly := h.ly
 have hx0 := h.x0
 have hy0 := h.pos
 by_cases hx : (x.length : Int) = 0
 ·have hxn : x = [] := by cases x with | nil => rfl | cons a t => simp at hx; omega
  have hq : q = 0 := by
   rw [h.eq, hxn]
   unfold qq
   cases b <;> simp [sg, dv]
  refine Ev.congr (f := fun _ => some (0, 1, 0)) (fun k => if_pos hx) ?_
  rw [hq]
  exact Ev.now _
 ·have hz := dv_eq_zero (by decide) h.nx
  have hX : dv 1000000000 x ≠ 0 := fun e => by rw [hz.1 e] at hx; exact hx rfl
  have hG : (Int.gcd (sg b (dv 1000000000 x)) (dv 1000000000 y) : Nat) = Int.gcd (dv 1000000000 x) (dv 1000000000 y) := by
   cases b <;> simp [sg, Int.neg_gcd]
  obtain ⟨s1, s2⟩ := Ra.sg_quo (na := b) (nb := false) (a := sg b (dv 1000000000 x)) (b := dv 1000000000 y) (A := dv 1000000000 x) (B := dv 1000000000 y) (G := (Int.gcd (sg b (dv 1000000000 x)) (dv 1000000000 y) : Nat)) rfl (by simp [sg]) hx0 hy0 rfl
  obtain ⟨t1, t2⟩ := rat_low (a := sg b (dv 1000000000 x)) (b := dv 1000000000 y) (by omega)
  rw [t1, ← h.eq] at s1
  rw [t2, ← h.eq] at s2
  have hbb : (!(b == false)) = b := by cases b <;> rfl
  rw [hbb, hG] at s1
  rw [hG] at s2
  refine Ev.congr (fun k => if_neg hx) ?_
  refine time_l _ ?_ _ x y h.nx h.ny (by omega) (by omega) (.inr hy0) rfl (Nat.le_refl _)
  intro u hu lu hup hug
  rw [← hug] at s1 s2
  have ex := Int.mul_ediv_add_emod (dv 1000000000 x) (dv 1000000000 u)
  obtain ⟨p1, p2, pe, pn1, pn2, pe1, pe2, pl1, pl2⟩ := over_f x u h.nx hu (by omega) (by omega) hup
  obtain ⟨o1, o2, oe, on1, on2, oe1, oe2, ol1, ol2⟩ := over_f y u h.ny hu (by omega) (by omega) hup
  have p0 : 0 ≤ dv 1000000000 p2 := dv_nonneg (by decide) pn2.dg
  have o0 : 0 ≤ dv 1000000000 o2 := dv_nonneg (by decide) on2.dg
  have hp := (Int.ediv_emod_unique (a := dv 1000000000 x) (b := dv 1000000000 u) (q := dv 1000000000 p1) (r := dv 1000000000 p2) hup).2 ⟨by rw [pe1, Int.add_comm, Int.mul_comm], p0, pe2⟩
  have ho := (Int.ediv_emod_unique (a := dv 1000000000 y) (b := dv 1000000000 u) (q := dv 1000000000 o1) (r := dv 1000000000 o2) hup).2 ⟨by rw [oe1, Int.add_comm, Int.mul_comm], o0, oe2⟩
  rw [hp.1] at s1
  rw [ho.1] at s2
  have q0 : 0 ≤ dv 1000000000 p1 := dv_nonneg (by decide) pn1.dg
  have hden : 1 ≤ (q.den : Int) := by have := q.den_pos; omega
  have sm1 := small_f p1 1152921504606846976 pn1 (by omega) (by decide) (by decide)
  have sm2 := small_f o1 1152921504606846976 on1 (by omega) (by decide) (by decide)
  have bad : ¬ (dv 1000000000 p1 ≤ 1152921504606846976 ∧ dv 1000000000 o1 ≤ 1152921504606846976) → tmV q = ((0, 0), 2) := by
   intro hh
   unfold tmV
   refine if_neg fun hv => hh ?_
   unfold Ea.valid at hv
   simp only [Bool.and_eq_true, decide_eq_true_eq] at hv
   rw [← s1, ← s2] at hv
   cases b <;> simp [sg] at hv <;> omega
  refine Ev.step (fun k => by rw [dioramaref02_Time.l0]) (Ev.congr (fun k => if_neg (show ¬ ((([] : List Int).length : Int) > 0) by simp)) (Ev.bind pe (Ev.bind oe (Ev.bind sm1 (Ev.bind sm2 ?_)))))
  by_cases h1 : 1152921504606846976 < dv 1000000000 p1
  ·rw [if_pos h1, bad (by omega)]
   refine Ev.congr (fun k => if_neg (show ¬ (false = true) by decide)) (Ev.step (fun k => by rw [dioramaref02_Time.j1]) (Ev.congr (fun k => if_pos rfl) (Ev.now _)))
  ·rw [if_neg h1]
   refine Ev.congr (fun k => if_pos rfl) ?_
   by_cases h2 : 1152921504606846976 < dv 1000000000 o1
   ·rw [if_pos h2, bad (by omega)]
    exact Ev.step (fun k => by rw [dioramaref02_Time.j1]) (Ev.congr (fun k => if_pos (show (!false) = true from rfl)) (Ev.now _))
   ·rw [if_neg h2]
    have hv : tmV q = ((q.num, (q.den : Int)), 0) := by
     unfold tmV
     refine if_pos ?_
     unfold Ea.valid
     simp only [Bool.and_eq_true, decide_eq_true_eq]
     rw [← s1, ← s2]
     rw [← s2] at hden
     cases b <;> simp [sg] <;> omega
    rw [hv, ← s1, ← s2]
    refine Ev.step (fun k => by rw [dioramaref02_Time.j1]) (Ev.congr (fun k => if_neg (show ¬ (!true) = true by decide)) ?_)
    cases b with
    | false => exact Ev.congr (fun k => if_neg (by decide)) (Ev.now _)
    | true =>
     refine Ev.congr (fun k => if_pos rfl) ?_
     rw [w64 (by omega) (by omega)]
     exact Ev.now _
end Go.Proofs.Ytpbhepdgamoiaaa.Qt
namespace Go.Proofs.Ytpbhepdgamoiaaa.Qm
open Go.RowKit Go Go.Proofs.YtpbhepdgamoiaaaW.PrintWords Go.Proofs.YtpbhepdgamoiaaaW.PrintLast Go.Proofs.YtpbhepdgamoiaaaW.PrintMore Go.Proofs.Ytpbhepdgamoiaaa.Ml Go.Proofs.Ytpbhepdgamoiaaa.Mn Go.Proofs.Ytpbhepdgamoiaaa.Nd Go.Proofs.Ytpbhepdgamoiaaa.Pa Go.Proofs.Ytpbhepdgamoiaaa.Pb Go.Proofs.Ytpbhepdgamoiaaa.Pc Go.Proofs.Ytpbhepdgamoiaaa.Rf Go.Proofs.Ytpbhepdgamoiaaa.Er Go.Proofs.Ytpbhepdgamoiaaa.Ek Go.Proofs.Ytpbhepdgamoiaaa.Et Go.Proofs.Ytpbhepdgamoiaaa.E Go.Proofs.Ytpbhepdgamoiaaa.Pe Go.Proofs.Ytpbhepdgamoiaaa.Pf Go.Proofs.Ytpbhepdgamoiaaa.Qr Go.Proofs.Ytpbhepdgamoiaaa.Qn Go.Proofs.Ytpbhepdgamoiaaa.Qw Go.Proofs.Ytpbhepdgamoiaaa.Qt
set_option linter.unusedVariables false
set_option linter.unusedSimpArgs false
def RM (w : World) (v : Value) (q : Rat) (n : Nat) : Prop := ∃ (b : Bool) (A1 : Option Addr) (c1 : Nat) (l1 : List Int) (A2 : Option Addr) (c2 : Nat) (l2 : List Int), v = .agg #[.bool b, .slice A1 l1.length c1, .slice A2 l2.length c2] ∧ Kd.V (Kd.int .i64) 3 w 0 (fun _ => True) (.slice A1 l1.length c1) l1 ∧ Kd.V (Kd.int .i64) 3 w 0 (fun _ => True) (.slice A2 l2.length c2) l2 ∧ RV b l1 l2 q n
theorem RM.below {w w' : World} {v : Value} {q : Rat} {n : Nat} (h : RM w v q n) (hb : Below w.heap.size w w') : RM w' v q n := by
 obtain ⟨b, A1, c1, l1, A2, c2, l2, rfl, h1, h2, hv⟩ := h
 exact ⟨b, A1, c1, l1, A2, c2, l2, rfl, Kd.V_below h1 hb, Kd.V_below h2 hb, hv⟩
theorem RM.of {w : World} {B : Nat} {o1 o2 : Nat → Prop} {b : Bool} {v1 v2 : Value} {x y : List Int} {q : Rat} {n : Nat} (h1 : Kd.R (Kd.int .i64) 3 w B o1 v1 x) (h2 : Kd.R (Kd.int .i64) 3 w B o2 v2 y) (hv : RV b x y q n) : RM w (.agg #[.bool b, v1, v2]) q n := by
 obtain ⟨A1, c1, rfl⟩ := Kd.R_slice h1
 obtain ⟨A2, c2, rfl⟩ := Kd.R_slice h2
 exact ⟨b, A1, c1, x, A2, c2, y, rfl, Kd.V_mono (Kd.R_V h1) (fun _ _ => trivial), Kd.V_mono (Kd.R_V h2) (fun _ _ => trivial), hv⟩
theorem ratOf_f (n d : Int) (hn : -9223372036854775807 ≤ n) (hn1 : n ≤ 9223372036854775807) (hd : 0 < d) (hd1 : d ≤ 9223372036854775807) : RE (fun k => dioramaref02_RatOf.f k n d) (qq n d) 3 := by
 obtain ⟨y, ey, ny, vy, ly⟩ := of_f d (by omega) hd1
 by_cases h : n < 0
 ·obtain ⟨x, ex, nx, vx, lx⟩ := of_f (-n) (by omega) (by omega)
  have hs : Ev (fun k => dioramaref02_size.f k n) x := by
   refine Ev.congr (fun k => if_pos h) ?_
   rw [w64 (by omega) (by omega)]
   exact Ev.bind ex (Ev.now _)
  refine ⟨decide (n < 0), x, y, Ev.congr (fun k => rfl) (Ev.bind hs (Ev.bind ey (Ev.now _))), ⟨nx, ny, by rw [vy]; exact hd, ?_, lx, ly⟩⟩
  rw [vx, vy, decide_eq_true h]
  simp [sg]
 ·obtain ⟨x, ex, nx, vx, lx⟩ := of_f n (by omega) hn1
  have hs : Ev (fun k => dioramaref02_size.f k n) x := Ev.congr (fun k => if_neg h) (Ev.bind ex (Ev.now _))
  refine ⟨decide (n < 0), x, y, Ev.congr (fun k => rfl) (Ev.bind hs (Ev.bind ey (Ev.now _))), ⟨nx, ny, by rw [vy]; exact hd, ?_, lx, ly⟩⟩
  rw [vx, vy, decide_eq_false h]
  simp [sg]
end Go.Proofs.Ytpbhepdgamoiaaa.Qm
namespace Go.Proofs.Ytpbhepdgamoiaaa.Tv
open Go.RowKit Go Go.Proofs.YtpbhepdgamoiaaaW.PrintWords Go.Proofs.YtpbhepdgamoiaaaW.PrintLast Go.Proofs.YtpbhepdgamoiaaaW.PrintMore Go.Proofs.Ytpbhepdgamoiaaa.Rf Go.Proofs.Ytpbhepdgamoiaaa.Er Go.Proofs.Ytpbhepdgamoiaaa.Ek Go.Proofs.Ytpbhepdgamoiaaa.Et Go.Proofs.Ytpbhepdgamoiaaa.E Go.Proofs.Ytpbhepdgamoiaaa.Pe Go.Proofs.Ytpbhepdgamoiaaa.Pf Go.Proofs.Ytpbhepdgamoiaaa.Pg Go.Proofs.Ytpbhepdgamoiaaa.Qr Go.Proofs.Ytpbhepdgamoiaaa.Qn Go.Proofs.Ytpbhepdgamoiaaa.Qt Go.Proofs.Ytpbhepdgamoiaaa.Qm Go.Proofs.Ytpbhepdgamoiaaa.Cl Go.Proofs.Ytpbhepdgamoiaaa.Nm Go.Proofs.Ytpbhepdgamoiaaa.Sw
set_option linter.unusedVariables false
set_option linter.unusedSimpArgs false
theorem valid_is {n d : Int} (h : Ea.valid n d = true) : (-1152921504606846976 ≤ n ∧ n ≤ 1152921504606846976) ∧ 1 ≤ d ∧ d ≤ 1152921504606846976 := by
 unfold Ea.valid at h
 simp only [Bool.and_eq_true, decide_eq_true_eq] at h
 omega
theorem ratOf_v {n d : Int} (h : Ea.valid n d = true) : RE (fun k => dioramaref02_RatOf.f k n d) (qq n d) 3 := by
 have := valid_is h
 exact ratOf_f n d (by omega) (by omega) (by omega) (by omega)
theorem tm_ok {q : Rat} (h : (tmV q).2 = 0) : Ea.valid (tmV q).1.1 (tmV q).1.2 = true ∧ qq (tmV q).1.1 (tmV q).1.2 = q := by
 unfold tmV at h ⊢
 by_cases hv : Ea.valid q.num q.den = true
 ·rw [if_pos hv]
  exact ⟨hv, Rat.num_divInt_den q⟩
 ·rw [if_neg hv] at h
  cases h
end Go.Proofs.Ytpbhepdgamoiaaa.Tv
namespace Go.Proofs.Ytpbhepdgamoiaaa.Bi
open Go.RowKit Go Go.Proofs.YtpbhepdgamoiaaaW.PrintWords Go.Proofs.YtpbhepdgamoiaaaW.PrintLast Go.Proofs.YtpbhepdgamoiaaaW.PrintMore Go.Proofs.Ytpbhepdgamoiaaa.Rf Go.Proofs.Ytpbhepdgamoiaaa.Er Go.Proofs.Ytpbhepdgamoiaaa.Ek Go.Proofs.Ytpbhepdgamoiaaa.Et Go.Proofs.Ytpbhepdgamoiaaa.E Go.Proofs.Ytpbhepdgamoiaaa.Pe Go.Proofs.Ytpbhepdgamoiaaa.Pf Go.Proofs.Ytpbhepdgamoiaaa.Pg Go.Proofs.Ytpbhepdgamoiaaa.Qr Go.Proofs.Ytpbhepdgamoiaaa.Qn Go.Proofs.Ytpbhepdgamoiaaa.Qw Go.Proofs.Ytpbhepdgamoiaaa.Qt Go.Proofs.Ytpbhepdgamoiaaa.Qm Go.Proofs.Ytpbhepdgamoiaaa.Nm Go.Proofs.Ytpbhepdgamoiaaa.Sw Go.Proofs.Ytpbhepdgamoiaaa.Tv Go.Proofs.Ytpbhepdgamoiaaa.Bk
set_option linter.unusedVariables false
set_option linter.unusedSimpArgs false
theorem bck_len (ms ts : Int) (p : Rat) : ∀ (l : List Ed) (out : List Spn) (b : Int), (bckL ms ts p out b l).1.length ≤ out.length + l.length
 | [], out, b => by simp [bckL]
 | x :: t, out, b => by
  have h1 := bck_len ms ts p t out (b + x.f0)
  have h2 := fun s => bck_len ms ts p t (out ++ [s]) (b + x.f0)
  simp only [List.length_append, List.length_cons, List.length_nil] at h2
  rw [bckL_cons, List.length_cons]
  split
  ·omega
  ·split
   ·split
    ·split
     ·have := h2 (spn (qq b ms) (qq (b + x.f0) ms))
      omega
     ·simp
    ·omega
   ·split
    ·omega
    ·split
     ·have := h2 (spn (qq b ms + (p - qq x.f1 ts) * qq x.f3 x.f2) (qq b ms + (p - qq x.f1 ts) * qq x.f3 x.f2))
      omega
     ·simp
theorem rate_inv {x : Ed} (h1 : 0 < x.f2) (h2 : 0 < x.f3) : qq x.f3 x.f2 * qq x.f2 x.f3 = 1 := by
 unfold qq
 rw [Rat.divInt_mul_divInt, Int.mul_comm x.f2 x.f3]
 exact Rat.divInt_self' (by have := Int.mul_pos h2 h1; omega)
theorem bck_in {ms ts : Int} {p : Rat} (hm : 0 < ms) : ∀ (l : List Ed) (out : List Spn) (b : Int), (∀ x ∈ l, Vd x) → (bckL ms ts p out b l).2 = 0 → ∀ s ∈ (bckL ms ts p out b l).1, s ∈ out ∨ ∃ q, qq b ms ≤ q ∧ s.f0.f0 = (tmV q).1.1 ∧ s.f0.f1 = (tmV q).1.2 ∧ (tmV q).2 = 0 ∧ medL ms ts q b l = ((tmV p).1, (tmV p).2 == 0, (tmV p).2)
 | [], out, b, _, _, s, hs => .inl hs
 | x :: t, out, b, hV, h, s, hs => by
  have hv := hV x (by simp)
  have d0 := hv.d0
  have l1 := (qq_lt1 (a := b) (b := b + x.f0) hm).2 (by omega)
  have lift : ∀ o, (bckL ms ts p o (b + x.f0) t).2 = 0 → s ∈ (bckL ms ts p o (b + x.f0) t).1 → s ∈ o ∨ ∃ q, qq b ms ≤ q ∧ s.f0.f0 = (tmV q).1.1 ∧ s.f0.f1 = (tmV q).1.2 ∧ (tmV q).2 = 0 ∧ medL ms ts q b (x :: t) = ((tmV p).1, (tmV p).2 == 0, (tmV p).2) := by
   intro o ho hso
   rcases bck_in hm t o (b + x.f0) (fun y hy => hV y (by simp [hy])) ho s hso with h | ⟨q, h1, h2, h3, h4, h5⟩
   ·exact .inl h
   ·have h6 := Rat.le_trans (Rat.le_of_lt l1) h1
    exact .inr ⟨q, h6, h2, h3, h4, by rw [med_cons, if_neg (Rat.not_lt.2 h6), if_neg (Rat.not_lt.2 h1), h5]⟩
  have news : ∀ q v : Rat, s ∈ out ++ [spn q v] → qq b ms ≤ q → q < qq (b + x.f0) ms → (tmV q).2 = 0 → ¬ x.f1 < 0 → qq x.f1 ts + (q - qq b ms) * qq x.f2 x.f3 = p → s ∈ out ∨ ∃ q, qq b ms ≤ q ∧ s.f0.f0 = (tmV q).1.1 ∧ s.f0.f1 = (tmV q).1.2 ∧ (tmV q).2 = 0 ∧ medL ms ts q b (x :: t) = ((tmV p).1, (tmV p).2 == 0, (tmV p).2) := by
   intro q v hso h1 h2 h3 h4 h5
   rcases List.mem_append.1 hso with h | h
   ·exact .inl h
   ·rw [List.mem_singleton] at h
    subst h
    refine .inr ⟨q, h1, rfl, rfl, h3, ?_⟩
    rw [med_cons, if_neg (Rat.not_lt.2 h1), if_pos h2]
    unfold shV
    rw [if_neg h4, h5]
  rw [bckL_cons] at h hs
  by_cases c1 : x.f1 < 0
  ·rw [if_pos c1] at h hs
   exact lift _ h hs
  rw [if_neg c1] at h hs
  by_cases c2 : x.f2 = 0
  ·rw [if_pos c2] at h hs
   by_cases c3 : p - qq x.f1 ts = 0
   ·rw [if_pos c3] at h hs
    by_cases c4 : (tmV (qq b ms)).2 = 0 ∧ (tmV (qq (b + x.f0) ms)).2 = 0
    ·rw [if_pos c4] at h hs
     rcases lift _ h hs with k | k
     ·refine news _ _ k Rat.le_refl l1 c4.1 c1 ?_
      rw [c2, qq_zero]
      grind
     ·exact .inr k
    ·rw [if_neg c4] at h
     cases h
   ·rw [if_neg c3] at h hs
    exact lift _ h hs
  ·rw [if_neg c2] at h hs
   by_cases c3 : p - qq x.f1 ts < 0 ∨ ¬ qq b ms + (p - qq x.f1 ts) * qq x.f3 x.f2 < qq (b + x.f0) ms
   ·rw [if_pos c3] at h hs
    exact lift _ h hs
   ·rw [if_neg c3] at h hs
    have c5 : ¬ p - qq x.f1 ts < 0 := fun hh => c3 (.inl hh)
    have c6 : qq b ms + (p - qq x.f1 ts) * qq x.f3 x.f2 < qq (b + x.f0) ms := Classical.byContradiction fun hh => c3 (.inr hh)
    have n0 := hv.n0
    have e0 := hv.e0
    have ri := rate_inv (x := x) (by omega) (by omega)
    by_cases c4 : (tmV (qq b ms + (p - qq x.f1 ts) * qq x.f3 x.f2)).2 = 0
    ·rw [if_pos c4] at h hs
     rcases lift _ h hs with k | k
     ·refine news _ _ k ?_ c6 c4 c1 ?_
      ·have r1 : 0 ≤ qq x.f3 x.f2 := Rat.not_lt.1 (qq_nonneg (by omega) (by omega))
       have r2 := Rat.mul_nonneg (Rat.not_lt.1 c5) r1
       grind
      ·have : (qq b ms + (p - qq x.f1 ts) * qq x.f3 x.f2 - qq b ms) * qq x.f2 x.f3 = (p - qq x.f1 ts) * (qq x.f3 x.f2 * qq x.f2 x.f3) := by grind
       rw [this, ri]
       grind
     ·exact .inr k
    ·rw [if_neg c4] at h
     cases h
theorem le_mul1 {a g : Int} (ha : 0 ≤ a) (hg : 1 ≤ g) : a ≤ a * g := by
 have := Int.mul_le_mul_of_nonneg_left hg ha
 omega
theorem tm_valid {n d : Int} (h : Ea.valid n d = true) : (tmV (qq n d)).2 = 0 := by
 have hv := valid_is h
 obtain ⟨g, hg, e1, e2⟩ := qq_parts (a := n) (b := d) (by omega)
 have hd := (qq n d).den_pos
 have h1 : ((qq n d).den : Int) ≤ d := by
  have := le_mul1 (a := ((qq n d).den : Int)) (g := g) (by omega) (by omega)
  omega
 have h2 : (qq n d).num ≤ 1152921504606846976 ∧ -1152921504606846976 ≤ (qq n d).num := by
  by_cases c : 0 ≤ (qq n d).num
  ·have := le_mul1 (a := (qq n d).num) (g := g) c (by omega)
   omega
  ·have := le_mul1 (a := -(qq n d).num) (g := g) (by omega) (by omega)
   rw [Int.neg_mul] at this
   omega
 unfold tmV
 rw [if_pos]
 unfold Ea.valid
 simp only [Bool.and_eq_true, decide_eq_true_eq]
 omega
theorem bckV_ok {l : List Ed} {ms ts n d : Int} (h : (bckV l ms ts n d).2 = 0) : chk l ms ts = 0 ∧ Ea.valid n d = true ∧ bckV l ms ts n d = bckL ms ts (qq n d) [] 0 l := by
 unfold bckV at h ⊢
 by_cases h0 : chk l ms ts = 0
 ·rw [if_pos h0] at h ⊢
  by_cases h1 : Ea.valid n d = true
  ·rw [if_pos h1] at h ⊢
   exact ⟨h0, h1, rfl⟩
  ·rw [if_neg h1] at h
   cases h
 ·rw [if_neg h0] at h
  exact absurd h h0
theorem bckV_len (l : List Ed) (ms ts n d : Int) (hl : l.length ≤ 60) : (bckV l ms ts n d).1.length ≤ 60 := by
 unfold bckV
 split
 ·split
  ·have := bck_len ms ts (qq n d) l [] 0
   simp only [List.length_nil] at this
   omega
  ·simp
 ·simp
end Go.Proofs.Ytpbhepdgamoiaaa.Bi
namespace Go.Proofs.Ytpbhepdgamoiaaa.In
open Go.RowKit Go Go.Proofs.YtpbhepdgamoiaaaW.PrintWords Go.Proofs.YtpbhepdgamoiaaaW.PrintLast Go.Proofs.YtpbhepdgamoiaaaW.PrintMore Go.Proofs.Ytpbhepdgamoiaaa.Mn Go.Proofs.Ytpbhepdgamoiaaa.Rf Go.Proofs.Ytpbhepdgamoiaaa.Er Go.Proofs.Ytpbhepdgamoiaaa.Ek Go.Proofs.Ytpbhepdgamoiaaa.Et Go.Proofs.Ytpbhepdgamoiaaa.E Go.Proofs.Ytpbhepdgamoiaaa.Pe Go.Proofs.Ytpbhepdgamoiaaa.Pf Go.Proofs.Ytpbhepdgamoiaaa.Pg Go.Proofs.Ytpbhepdgamoiaaa.Qr Go.Proofs.Ytpbhepdgamoiaaa.Qn Go.Proofs.Ytpbhepdgamoiaaa.Qt Go.Proofs.Ytpbhepdgamoiaaa.Qm Go.Proofs.Ytpbhepdgamoiaaa.Nm Go.Proofs.Ytpbhepdgamoiaaa.Sw Go.Proofs.Ytpbhepdgamoiaaa.Tv Go.Proofs.Ytpbhepdgamoiaaa.Bk Go.Proofs.Ytpbhepdgamoiaaa.Bi Go.Proofs.Ytpbhepdgamoiaaa.Oe
set_option linter.unusedVariables false
set_option linter.unusedSimpArgs false
theorem Lowest_f {n d : Int} (hv : Ea.valid n d = true) : Ev (fun k => dioramaref02_Lowest.f k n d) ((tmV (qq n d)).1.1, (tmV (qq n d)).1.2, (tmV (qq n d)).2) := by
 obtain ⟨b1, x1, y1, e1, v1⟩ := ratOf_v hv
 have e4 := time_f v1 (by decide)
 refine Ev.congr (f := fun k => (dioramaref02_RatOf.f k n d).bind fun bt => ((dioramaref02_Time.f k bt.1 bt.2.1 bt.2.2).bind fun bt2 => (some (bt2.1, bt2.2.1, bt2.2.2)))) (fun k => ?_) (Ev.bind e1 (Ev.bind e4 (Ev.now _)))
 unfold dioramaref02_Lowest.f
 rw [rvalid_f, hv]
 simp only [Option.bind_some, if_true]
theorem rd_mem (s : List Spn) (i : Int) (h0 : 0 ≤ i) (h1 : i < (s.length : Int)) : rd_T63 s i ∈ s := by
 have hn : i.toNat < s.length := by omega
 have hE : rd_T63 s i = s.getD i.toNat z63 := rfl
 rw [hE, List.getD_eq_getElem?_getD, List.getElem?_eq_getElem hn]
 exact List.getElem_mem hn
theorem ins_l (l : List Ed) (ms ts m1 m2 : Int) (s : List Spn) (hl : s.length ≤ 1000) (hs : ∀ x ∈ s, medV l ms ts x.f0.f0 x.f0.f1 = ((m1, m2), true, 0)) : ∀ (j : Nat) (i : Int), 0 ≤ i → i + j = s.length → Ev (fun k => dioramalaw10_EditInstants.l0 k s i l ms ts m1 m2) true := by
 intro j
 induction j with
 | zero =>
  intro i h0 h1
  exact Ev.step (fun k => by rw [dioramalaw10_EditInstants.l0]) (Ev.congr (fun k => if_neg (by omega)) (Ev.bind awake_f (Ev.now _)))
 | succ j ih =>
  intro i h0 h1
  have hm := hs _ (rd_mem s i h0 (by omega))
  have hw : wrap64 (i + 1) = i + 1 := w64 (by omega) (by omega)
  have h2 := ih (i + 1) (by omega) (by omega)
  refine Ev.step (fun k => by rw [dioramalaw10_EditInstants.l0]) (Ev.congr (fun k => if_pos (by omega)) (Ev.congr (fun k => if_pos h0) ?_))
  unfold edit_Media.f
  rw [hm, hw]
  simp only [Option.bind_some]
  refine Ev.congr (fun k => if_pos (by first | trivial | rfl)) (Ev.congr (fun k => if_pos (by first | trivial | rfl)) (Ev.congr (fun k => if_neg (by simp)) h2))
theorem pure_In (l : List Ed) (ms ts n d : Int) : Ev (fun k => dioramalaw10_EditInstants.f k l ms ts n d) true := by
 have aw : Ev (fun k => (dioramalaw10_awake.f k).bind fun t => (some t)) true := Ev.bind awake_f (Ev.now _)
 have off : ∀ s a b, Ev (fun k => dioramalaw10_EditInstants.j0 k s true l ms ts a b) true := fun s a b =>
  Ev.step (fun k => by rw [dioramalaw10_EditInstants.j0]) (Ev.congr (fun k => if_pos rfl) aw)
 refine Ev.congr (f := fun k => if 60 < l.length then ((dioramalaw10_awake.f k).bind fun t => (some t)) else ((dioramaref02_Lowest.f k n d).bind fun bt => (if (bckV l ms ts n d).2 = 0 then (dioramalaw10_EditInstants.j0 k (bckV l ms ts n d).1 (bt.2.2 != 0) l ms ts bt.1 bt.2.1) else (dioramalaw10_EditInstants.j0 k (bckV l ms ts n d).1 true l ms ts bt.1 bt.2.1)))) (fun k => ?_) ?_
 ·unfold dioramalaw10_EditInstants.f edit_Back.f
  rw [many_f]
  simp only [Option.bind_some, decide_eq_true_eq]
 by_cases h1 : 60 < l.length
 ·exact Ev.congr (fun k => if_pos h1) aw
 refine Ev.congr (fun k => if_neg h1) ?_
 by_cases h2 : (bckV l ms ts n d).2 = 0
 ·obtain ⟨hk, hv, he⟩ := bckV_ok h2
  have hlen := bckV_len l ms ts n d (by omega)
  obtain ⟨hc, hl, hV, hs⟩ := chk_ok.1 hk
  have ht := tm_valid hv
  refine Ev.bind (Lowest_f hv) (Ev.congr (fun k => if_pos h2) ?_)
  rw [show ((tmV (qq n d)).2 != 0) = false by rw [ht]; rfl]
  refine Ev.step (fun k => by rw [dioramalaw10_EditInstants.j0]) (Ev.congr (fun k => if_neg (by decide)) ?_)
  refine ins_l l ms ts _ _ _ (by omega) (fun x hx => ?_) (bckV l ms ts n d).1.length 0 (by omega) (by omega)
  rw [he] at h2 hx
  rcases bck_in (by have := hc.m0; omega) l [] 0 hV h2 x hx with h | ⟨q, h3, h4, h5, h6, h7⟩
  ·cases h
  ·obtain ⟨h8, h9⟩ := tm_ok h6
   rw [h4, h5, medV_ok hk h8, h9, h7, ht]
   rfl
 ·by_cases hv : Ea.valid n d = true
  ·exact Ev.bind (Lowest_f hv) (Ev.congr (fun k => if_neg h2) (off _ _ _))
  ·refine Ev.congr (f := fun k => dioramalaw10_EditInstants.j0 k (bckV l ms ts n d).1 true l ms ts 0 0) (fun k => ?_) (off _ _ _)
   unfold dioramaref02_Lowest.f
   rw [rvalid_f, show Ea.valid n d = false by simpa using hv]
   simp only [Option.bind_some, Bool.false_eq_true, if_false, if_neg h2]
theorem walk_In (a : Option Addr) (len c : Nat) (l : List Ed) (ms ts n d : Int) (w : World) (h : Eds w a len c l) (_ : (Lit.int .i64 ms).wf = true) (_ : (Lit.int .i64 ts).wf = true) (_ : (Lit.int .i64 n).wf = true) (_ : (Lit.int .i64 d).wf = true) :
  Calls Try.prog 13 #[.agg #[.slice a len c, .int .i64 ms, .int .i64 ts], .agg #[.int .i64 n, .int .i64 d]] w (fun e w' => e = .returned (.bool true) ∧ Below w.heap.size w w') := by
 obtain ⟨k, hk⟩ := (pure_In l ms ts n d).rounds
 rw [← h.n]
 exact dioramalaw10_EditInstants.calls k a c l ms ts n d true w h.c h.h hk
end Go.Proofs.Ytpbhepdgamoiaaa.In
namespace Go.Proofs.Ytpbhepdgamoiaaa.editInstantsRow
open Go.ChangeShapes Go.WideShapes Go.ChangeAt Go.RowKit Go.Proofs.Ytpbhepdgamoiaaa.Oe
set_option linter.unusedVariables false
set_option maxRecDepth 100000 in
theorem lifted (os : Os) (started : os.Started) (H : Type) (enc : TypeId × Value → H) :
  ReturnsInHanded {} Try.checked os 13 .any (Rows.editInstantsSpec.pre6 enc Try.prog Try.f13 Rows.editInstantsRow.domain false) (Rows.editInstantsSpec.post enc Try.prog Try.f13 false true false false) := by
 refine returnsInHanded_of_change_sized (C := Try.checked) own started (by kernel_rfl) Try.func13
  (ChangeSpec.witness6 (enc := enc) (C := Try.checked) false ⟨#[], #[.agg #[.slice none 0 0, .int .i64 0, .int .i64 0], .agg #[.int .i64 0, .int .i64 0]], []⟩ 8 (by kernel_rfl) (by kernel_rfl) (by kernel_rfl) (by kernel_rfl)) ?_
 intro W base args ds gs before hval0 hW hcnd hsz0 _
 have hval : ∀ (j : Nat) t v, Try.f13.params[j]? = some t → args[j]? = some v → Value.okWide Try.prog W .any base t v := hval0
 have hW' := hW
 obtain ⟨p, q, hA0, hV, rfl, hfz, hnd⟩ := hW
 have hA : DataW.TrodAll enc Try.prog W 0 (fun _ => true) true Try.f13.params.toList args.toList ds p := hA0
 rw [Try.params13] at hA hval
 obtain ⟨v0, vs0, d0, ds0, p0, q0, hargs, rfl, rfl, h0, r0⟩ := trodAll_cons hA
 obtain ⟨v1, vs1, d1, ds1, p1, q1, rfl, rfl, rfl, h1, r1⟩ := trodAll_cons r0
 obtain ⟨rfl, rfl, rfl⟩ := trodAll_nil r1
 obtain rfl : args = #[v0, v1] := by cases args; simp_all
 obtain ⟨rfl, rfl⟩ := trodVars_none hV
 have k0 := h0
 have lt0 : ∀ x ∈ p0, x.block < W.heap.size := by obtain ⟨m, hm⟩ := k0; exact DataW.trod_lt m _ _ _ hm
 obtain ⟨a0, len0, cap0, z0, m0, t0, rfl, w0, wm0, wt0⟩ := open_list (hval 0 24 v0 rfl rfl) h0
 have k1 := h1
 have lt1 : ∀ x ∈ p1, x.block < W.heap.size := by obtain ⟨m, hm⟩ := k1; exact DataW.trod_lt m _ _ _ hm
 obtain ⟨a1_0, a1_1, rfl, w1_0, w1_1⟩ := open_time (hval 1 37 v1 rfl rfl) h1
 clear hA0 hval0 hsz0
 refine (In.walk_In a0 len0 cap0 z0 m0 t0 a1_0 a1_1 W w0 wm0 wt0 w1_0 w1_1).mono fun e W' ⟨he, bel⟩ => ?_
 subst he
 exact ⟨_, rfl, _, _, _, [], _, [], hW', trodAll_mk1 (shut_bool Try.underlying4 _), (trodAll_cons_mk (Below.trod laidOut (by kernel_rfl) (of_decide_eq_true (by kernel_rfl)) k0 bel lt0) (trodAll_cons_mk (Below.trod laidOut (by kernel_rfl) (of_decide_eq_true (by kernel_rfl)) k1 bel lt1) trodAll_mk0)), rfl, bel.frame _, fun h => by cases h⟩
theorem over : Rows.editInstantsRow.holds Try.pinned (OpenSpec.ofChange Rows.editInstantsSpec) :=
 OpenClaim.holds_of_wide 13 Try.f13 rfl rfl rfl rfl rfl rfl rfl ⟨rfl, rfl, rfl, rfl, rfl⟩ rfl rfl rfl rfl rfl (by kernel_rfl) Try.func13 (by kernel_rfl)
  (of_decide_eq_true (by kernel_rfl)) (by unfold Func.isWrapper; first | (rw [if_pos (by decide +kernel)]; kernel_rfl) | (rw [if_neg (by decide +kernel)]; exact ⟨rfl, rfl⟩))
  (fun os started H enc _ => lifted os started H enc)
end Go.Proofs.Ytpbhepdgamoiaaa.editInstantsRow
namespace Go.Proofs.Ytpbhepdgamoiaaa
theorem editInstants_holds : Rows.EditInstantsSaid := editInstantsRow.over
#print axioms editInstants_holds
end Go.Proofs.Ytpbhepdgamoiaaa

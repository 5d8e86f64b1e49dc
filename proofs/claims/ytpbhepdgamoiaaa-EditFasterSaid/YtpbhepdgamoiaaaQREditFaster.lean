/-
  EditFaster: for every input the law returns true. The reference's first error and length; lists compared. Two lists of edits with their errors, compared. EditFaster: a list that is so many times as fast is as the reference says. EditFaster: for every input the law returns true.
-/
import Derived.Test.YtpbhepdgamoiaaaQREditFasterd
import Derived.Test.YtpbhepdgamoiaaaQREditFasterb
import Derived.Test.YtpbhepdgamoiaaaRows
import Derived.WalkKit
import Derived.ProofKit
import Derived.OpenShut
import Derived.ChangeOld
import Derived.Below
import Derived.SizedLaws
import Derived.Carry
namespace Go.Proofs.Ytpbhepdgamoiaaa.Qp
open Go.RowKit Go Go.Proofs.YtpbhepdgamoiaaaW.PrintWords Go.Proofs.YtpbhepdgamoiaaaW.PrintLast Go.Proofs.YtpbhepdgamoiaaaW.PrintMore Go.Proofs.Ytpbhepdgamoiaaa.Ml Go.Proofs.Ytpbhepdgamoiaaa.Mn Go.Proofs.Ytpbhepdgamoiaaa.Nd Go.Proofs.Ytpbhepdgamoiaaa.Pa Go.Proofs.Ytpbhepdgamoiaaa.Pb Go.Proofs.Ytpbhepdgamoiaaa.Rf Go.Proofs.Ytpbhepdgamoiaaa.Er Go.Proofs.Ytpbhepdgamoiaaa.Ek Go.Proofs.Ytpbhepdgamoiaaa.E Go.Proofs.Ytpbhepdgamoiaaa.Pe Go.Proofs.Ytpbhepdgamoiaaa.Pf Go.Proofs.Ytpbhepdgamoiaaa.Pg Go.Proofs.Ytpbhepdgamoiaaa.Qr Go.Proofs.Ytpbhepdgamoiaaa.Qn Go.Proofs.Ytpbhepdgamoiaaa.Qo
set_option linter.unusedVariables false
set_option linter.unusedSimpArgs false
theorem bad_f (x : Ed) : dioramaref10_badEdit.f x.f0 x.f1 x.f2 x.f3 = some (!decide (Vd x)) := by
 unfold dioramaref10_badEdit.f
 rw [isEmpty_f]
 by_cases h1 : x.f0 < 1
 ·rw [if_pos h1, decide_eq_false (fun h => by have := h.d0; omega)]; rfl
 rw [if_neg h1]
 by_cases h2 : x.f0 > 1099511627776
 ·rw [if_pos h2, decide_eq_false (fun h => by have := h.d1; omega)]; rfl
 rw [if_neg h2]
 by_cases h3 : x.f1 < -1
 ·rw [if_pos h3, decide_eq_false (fun h => by have := h.m0; omega)]; rfl
 rw [if_neg h3]
 by_cases h4 : x.f1 > 1099511627776
 ·rw [if_pos h4, decide_eq_false (fun h => by have := h.m1; omega)]; rfl
 rw [if_neg h4]
 by_cases h5 : x.f2 < 0
 ·rw [if_pos h5, decide_eq_false (fun h => by have := h.n0; omega)]; rfl
 rw [if_neg h5]
 by_cases h6 : x.f2 > 1000
 ·rw [if_pos h6, decide_eq_false (fun h => by have := h.n1; omega)]; rfl
 rw [if_neg h6]
 by_cases h7 : x.f3 < 1
 ·rw [if_pos h7, decide_eq_false (fun h => by have := h.e0; omega)]; rfl
 rw [if_neg h7]
 by_cases h8 : x.f3 > 1000
 ·rw [if_pos h8, decide_eq_false (fun h => by have := h.e1; omega)]; rfl
 rw [if_neg h8]
 simp only [Option.bind_some]
 by_cases h9 : x.f1 = -1
 ·rw [if_pos (decide_eq_true h9)]
  by_cases h10 : x.f2 = 1
  ·rw [if_pos h10]
   by_cases h11 : x.f3 = 1
   ·rw [decide_eq_true (show Vd x from ⟨by omega, by omega, by omega, by omega, by omega, by omega, by omega, by omega, fun _ => ⟨h10, h11⟩⟩), h11]
    rfl
   ·rw [decide_eq_false (fun h => h11 (h.em (by omega)).2)]
    simp [h11]
  ·rw [if_neg h10, decide_eq_false (fun h => h10 (h.em (by omega)).1)]
   rfl
 ·rw [if_neg (by simpa using h9), decide_eq_true (show Vd x from ⟨by omega, by omega, by omega, by omega, by omega, by omega, by omega, by omega, fun h => by omega⟩)]
  rfl
theorem rcheck_l (l : List Ed) (hl : l.length ≤ 20) (rest : List Ed) : ∀ pre, l = pre ++ rest → (∀ x ∈ pre, Vd x) → Ev (fun k => dioramaref10_Check.l0 k l (sumD pre) (pre.length : Int)) (if (∀ x ∈ rest, Vd x) ∧ sumD l ≤ 1099511627776 then 0 else 33) := by
 induction rest with
 | nil =>
  intro pre he hp
  subst he
  refine Ev.step (f := fun _ => some (if (∀ x ∈ ([] : List Ed), Vd x) ∧ sumD (pre ++ []) ≤ 1099511627776 then 0 else 33)) (fun k => ?_) (Ev.now _)
  simp only [dioramaref10_Check.l0, List.append_nil]
  rw [if_neg (by omega)]
  by_cases h : sumD pre > 1099511627776
  ·rw [if_pos h, if_neg (by intro hh; omega)]
  ·rw [if_neg h, if_pos ⟨by simp, by omega⟩]
 | cons x t ih =>
  intro pre he hp
  have hlen : l.length = pre.length + (t.length + 1) := by rw [he]; simp
  have hx : rd_T77 l (pre.length : Int) = x := by rw [he]; exact rd_at pre x t
  by_cases hV : Vd x
  ·have hs : sumD (pre ++ [x]) = sumD pre + x.f0 := by rw [sumD_app]; simp [sumD]
   have hb := sumD_le hp
   have h0 := sumD_nonneg hp
   have hr := ih (pre ++ [x]) (by rw [he]; simp) (by intro y hy; simp only [List.mem_append, List.mem_singleton] at hy; rcases hy with hy | rfl; exact hp y hy; exact hV)
   have e : ((∀ y ∈ x :: t, Vd y) ∧ sumD l ≤ 1099511627776) = ((∀ y ∈ t, Vd y) ∧ sumD l ≤ 1099511627776) := by
    apply propext
    constructor
    ·rintro ⟨h1, h2⟩; exact ⟨fun y hy => h1 y (by simp [hy]), h2⟩
    ·rintro ⟨h1, h2⟩; exact ⟨fun y hy => by simp only [List.mem_cons] at hy; rcases hy with rfl | hy; exact hV; exact h1 y hy, h2⟩
   simp only [e]
   refine Ev.step (fun k => ?_) hr
   simp only [dioramaref10_Check.l0]
   rw [if_pos (by omega), if_pos (by omega), hx, bad_f, decide_eq_true hV]
   simp only [Option.bind_some, Bool.not_true, if_neg (show ¬ (false = true) by decide)]
   rw [w64 (by have := hV.d0; omega) (by have := hV.d1; omega), w64 (by omega) (by omega), hs]
   simp
  ·refine Ev.step (f := fun _ => some 33) (fun k => ?_) ?_
   ·simp only [dioramaref10_Check.l0]
    rw [if_pos (by omega), if_pos (by omega), hx, bad_f, decide_eq_false hV]
    simp
   ·rw [if_neg (fun h => hV (h.1 x (by simp)))]
    exact Ev.now _
theorem rscale_f (n : Int) : dioramaref10_isScale.f n = some (decide (1 ≤ n ∧ n ≤ 1000000)) := by
 unfold dioramaref10_isScale.f
 by_cases h : n ≥ 1
 ·rw [if_pos h]; simp; omega
 ·rw [if_neg h]; simp; omega
theorem rcheck_f (l : List Ed) (ms ts : Int) : Ev (fun k => dioramaref10_Check.f k l ms ts) (chk l ms ts) := by
 have h0 : ∀ b, Ev (fun k => dioramaref10_Check.j0 k l b) (if b = true then 1 else if 20 < l.length then 2 else if (∀ x ∈ l, Vd x) ∧ sumD l ≤ 1099511627776 then 0 else 33) := by
  intro b
  by_cases hb : b = true
  ·rw [if_pos hb]
   refine Ev.step (f := fun _ => some 1) (fun k => ?_) (Ev.now _)
   simp only [dioramaref10_Check.j0]
   rw [if_pos hb]
  ·rw [if_neg hb]
   by_cases hl : 20 < l.length
   ·rw [if_pos hl]
    refine Ev.step (f := fun _ => some 2) (fun k => ?_) (Ev.now _)
    simp only [dioramaref10_Check.j0]
    rw [if_neg hb, if_pos (by omega)]
   ·rw [if_neg hl]
    refine Ev.step (fun k => ?_) (rcheck_l l (by omega) l [] rfl (by simp))
    simp only [dioramaref10_Check.j0]
    rw [if_neg hb, if_neg (by omega)]
    rfl
 unfold chk
 by_cases h1 : 1 ≤ ms ∧ ms ≤ 1000000
 ·by_cases h2 : 1 ≤ ts ∧ ts ≤ 1000000
  ·rw [if_neg (not_not_intro ⟨h1.1, h1.2, h2.1, h2.2⟩)]
   refine Ev.congr (fun k => ?_) (h0 false)
   unfold dioramaref10_Check.f
   rw [rscale_f, rscale_f, decide_eq_true h1, decide_eq_true h2]
   rfl
  ·rw [if_pos (fun h => h2 ⟨h.t0, h.t1⟩)]
   refine Ev.congr (fun k => ?_) (h0 true)
   unfold dioramaref10_Check.f
   rw [rscale_f, rscale_f, decide_eq_true h1, decide_eq_false h2]
   rfl
 ·rw [if_pos (fun h => h1 ⟨h.m0, h.m1⟩)]
  refine Ev.congr (fun k => ?_) (h0 true)
  unfold dioramaref10_Check.f
  rw [rscale_f, decide_eq_false h1]
  rfl
end Go.Proofs.Ytpbhepdgamoiaaa.Qp
namespace Go.Proofs.Ytpbhepdgamoiaaa.Qe
open Go.RowKit Go Go.Proofs.YtpbhepdgamoiaaaW.PrintWords Go.Proofs.YtpbhepdgamoiaaaW.PrintLast Go.Proofs.YtpbhepdgamoiaaaW.PrintMore Go.Proofs.Ytpbhepdgamoiaaa.Mn Go.Proofs.Ytpbhepdgamoiaaa.Er Go.Proofs.Ytpbhepdgamoiaaa.Ek Go.Proofs.Ytpbhepdgamoiaaa.E Go.Proofs.Ytpbhepdgamoiaaa.Pe Go.Proofs.Ytpbhepdgamoiaaa.Pf Go.Proofs.Ytpbhepdgamoiaaa.Pg
set_option linter.unusedVariables false
set_option linter.unusedSimpArgs false
theorem eqEdits_l (a b : List Ed) (hl : a.length ≤ 1000000) (ra : List Ed) : ∀ (pre rb : List Ed), a = pre ++ ra → b = pre ++ rb → ra.length = rb.length → Ev (fun k => dioramaref00_EqEdits.l0 k a b (pre.length : Int)) (decide (ra = rb)) := by
 induction ra with
 | nil =>
  intro pre rb ha hb hr
  have : rb = [] := by cases rb with | nil => rfl | cons _ _ => simp at hr
  subst this
  refine Ev.step (f := fun _ => some (decide (([] : List Ed) = []))) (fun k => ?_) (Ev.now _)
  simp only [dioramaref00_EqEdits.l0]
  rw [if_neg (by rw [ha]; simp)]
  simp
 | cons x t ih =>
  intro pre rb ha hb hr
  cases rb with
  | nil => simp at hr
  | cons y u =>
   have hx : rd_T77 a (pre.length : Int) = x := by rw [ha]; exact rd_at pre x t
   have hy : rd_T77 b (pre.length : Int) = y := by rw [hb]; exact rd_at pre y u
   have hla : a.length = pre.length + (t.length + 1) := by rw [ha]; simp
   have hlb : b.length = pre.length + (u.length + 1) := by rw [hb]; simp
   simp only [List.length_cons, Nat.add_right_cancel_iff] at hr
   by_cases hxy : x = y
   ·subst hxy
    have hi := ih (pre ++ [x]) u (by rw [ha]; simp) (by rw [hb]; simp) hr
    have e : decide (x :: t = x :: u) = decide (t = u) := by simp
    rw [e]
    refine Ev.step (fun k => ?_) hi
    simp only [dioramaref00_EqEdits.l0]
    rw [if_pos (by omega), if_pos (by omega), if_pos (by omega), hx, hy, ed_ne, if_neg (by simp), w64 (by omega) (by omega)]
    simp
   ·rw [decide_eq_false (by intro h; injection h with h _; exact hxy h)]
    refine Ev.step (f := fun _ => some false) (fun k => ?_) (Ev.now _)
    simp only [dioramaref00_EqEdits.l0]
    rw [if_pos (by omega), if_pos (by omega), if_pos (by omega), hx, hy, ed_ne, if_pos (by simpa using hxy)]
theorem eqEdits_f (a b : List Ed) (hl : a.length ≤ 1000000) : Ev (fun k => dioramaref00_EqEdits.f k a b) (decide (a = b)) := by
 by_cases h : a.length = b.length
 ·refine Ev.congr (fun k => ?_) (eqEdits_l a b hl a [] b rfl rfl h)
  unfold dioramaref00_EqEdits.f
  rw [if_pos (by omega)]; rfl
 ·rw [decide_eq_false (fun e => h (by rw [e]))]
  refine Ev.congr (fun k => ?_) (Ev.now _)
  unfold dioramaref00_EqEdits.f
  rw [if_neg (by omega)]
theorem eq_f (a : List Ed) (e : Int) (hl : a.length ≤ 1000000) : Ev (fun k => dioramalaw10_eq.f k a e a e) true := by
 have h := eqEdits_f a a hl
 rw [decide_eq_true rfl] at h
 refine Ev.congr (fun k => rfl) (Ev.bind h ?_)
 refine Ev.congr (fun k => if_pos rfl) ?_
 rw [show (e == e) = true by simp]
 exact Ev.now _
end Go.Proofs.Ytpbhepdgamoiaaa.Qe
namespace Go.Proofs.Ytpbhepdgamoiaaa.Fr
open Go.RowKit Go Go.Proofs.YtpbhepdgamoiaaaW.PrintWords Go.Proofs.YtpbhepdgamoiaaaW.PrintLast Go.Proofs.YtpbhepdgamoiaaaW.PrintMore Go.Proofs.Ytpbhepdgamoiaaa.Mn Go.Proofs.Ytpbhepdgamoiaaa.Rf Go.Proofs.Ytpbhepdgamoiaaa.Er Go.Proofs.Ytpbhepdgamoiaaa.Ek Go.Proofs.Ytpbhepdgamoiaaa.E Go.Proofs.Ytpbhepdgamoiaaa.Pe Go.Proofs.Ytpbhepdgamoiaaa.Pf Go.Proofs.Ytpbhepdgamoiaaa.Pg Go.Proofs.Ytpbhepdgamoiaaa.Qr Go.Proofs.Ytpbhepdgamoiaaa.Qn Go.Proofs.Ytpbhepdgamoiaaa.Qo Go.Proofs.Ytpbhepdgamoiaaa.Qp Go.Proofs.Ytpbhepdgamoiaaa.Qe Go.Proofs.Ytpbhepdgamoiaaa.Qw Go.Proofs.Ytpbhepdgamoiaaa.Oe
set_option linter.unusedVariables false
set_option linter.unusedSimpArgs false
def mapE (f : Ed → Int × Ed) (fin : List Ed → List Ed × Int) : List Ed → List Ed → List Ed × Int
 | out, [] => fin out
 | out, x :: t => if (f x).1 = 0 then mapE f fin (out ++ [(f x).2]) t else ([], (f x).1)
theorem mapE_ok {f : Ed → Int × Ed} {fin : List Ed → List Ed × Int} {out : List Ed} {x : Ed} {t : List Ed} {y : Ed} (h : f x = (0, y)) : mapE f fin out (x :: t) = mapE f fin (out ++ [y]) t := by
 simp only [mapE]
 rw [h, if_pos rfl]
theorem mapE_err {f : Ed → Int × Ed} {fin : List Ed → List Ed × Int} {out : List Ed} {x : Ed} {t : List Ed} {y : Ed} {e : Int} (h : f x = (e, y)) (he : e ≠ 0) : mapE f fin out (x :: t) = ([], e) := by
 simp only [mapE]
 rw [h, if_neg he]
def fstE (num den d : Int) (x : Ed) : Ed := if 0 ≤ x.f1 ∧ 0 < x.f2 then lowV ⟨d, x.f1, x.f2 * num, x.f3 * den⟩ else ⟨d, x.f1, x.f2, x.f3⟩
def fastV (num den : Int) (x : Ed) : Int × Ed :=
 if x.f0 * den % num = 0 then
  (if (0 ≤ x.f1 ∧ 0 < x.f2) ∧ (1000 < (fstE num den (x.f0 * den / num) x).f2 ∨ 1000 < (fstE num den (x.f0 * den / num) x).f3) then (33, x)
     else if 1099511627776 < x.f0 * den / num then (2, x) else (0, fstE num den (x.f0 * den / num) x))
 else (20, x)
theorem fastV_eq (num den : Int) (x : Ed) : fastV num den x =
 if x.f0 * den % num = 0 then
  (if (0 ≤ x.f1 ∧ 0 < x.f2) ∧ (1000 < (fstE num den (x.f0 * den / num) x).f2 ∨ 1000 < (fstE num den (x.f0 * den / num) x).f3) then (33, x)
     else if 1099511627776 < x.f0 * den / num then (2, x) else (0, fstE num den (x.f0 * den / num) x))
 else (20, x) := rfl
structure Rt (num den : Int) : Prop where
 n0 : 1 ≤ num
 n1 : num ≤ 1000
 d0 : 1 ≤ den
 d1 : den ≤ 1000
theorem prod_bd {a b : Int} (A B : Int) (ha : 1 ≤ a) (hA : a ≤ A) (hb : 1 ≤ b) (hB : b ≤ B) : 1 ≤ a * b ∧ a * b ≤ A * B := by
 have h1 := Int.mul_le_mul hA hB (by omega) (by omega)
 have h2 := Int.mul_pos (show 0 < a by omega) (show 0 < b by omega)
 omega
theorem quot_pos {a b : Int} (ha : 1 ≤ a) (hb : 1 ≤ b) (h : a % b = 0) : 1 ≤ a / b := by
 have h1 := Int.mul_ediv_add_emod a b
 refine Int.le_of_not_gt fun h2 => ?_
 have h3 := Int.mul_le_mul_of_nonneg_left (show a / b ≤ 0 by omega) (show 0 ≤ b by omega)
 omega
theorem quot_le {a b : Int} (ha : 0 ≤ a) : a / b ≤ a := Int.ediv_le_self b ha
theorem fast_vd {num den : Int} (hr : Rt num den) {x y : Ed} (hx : Vd x) (h : fastV num den x = (0, y)) : Vd y := by
 have hp := prod_bd 1099511627776 1000 hx.d0 hx.d1 hr.d0 hr.d1
 unfold fastV at h
 by_cases h0 : x.f0 * den % num = 0
 ·rw [if_pos h0] at h
  have hq := quot_pos hp.1 hr.n0 h0
  generalize x.f0 * den / num = d at h hq
  by_cases h1 : (0 ≤ x.f1 ∧ 0 < x.f2) ∧ (1000 < (fstE num den d x).f2 ∨ 1000 < (fstE num den d x).f3)
  ·rw [if_pos h1] at h; cases h
  ·rw [if_neg h1] at h
   by_cases h2 : 1099511627776 < d
   ·rw [if_pos h2] at h; cases h
   ·rw [if_neg h2] at h
    obtain rfl : fstE num den d x = y := (Prod.mk.inj h).2
    have m1 := hx.m1
    by_cases hm : 0 ≤ x.f1 ∧ 0 < x.f2
    ·have hb : ¬ (1000 < (fstE num den d x).f2 ∨ 1000 < (fstE num den d x).f3) := fun hc => h1 ⟨hm, hc⟩
     have hn1 := hx.n1
     have he0 := hx.e0
     have he1 := hx.e1
     have p1 := prod_bd 1000 1000 (show 1 ≤ x.f2 by omega) hn1 hr.n0 hr.n1
     have p2 := prod_bd 1000 1000 he0 he1 hr.d0 hr.d1
     have hl := qq_low (n := x.f2 * num) (e := x.f3 * den) (by omega) p2.1
     unfold fstE lowV at hb ⊢
     rw [if_pos hm] at hb ⊢
     simp only at hb ⊢
     exact ⟨hq, by simp only; omega, by simp only; omega, m1, hl.1, by simp only; omega, hl.2.2.1, by simp only; omega, fun hc => by simp only at hc; omega⟩
    ·unfold fstE
     rw [if_neg hm]
     exact ⟨hq, by simp only; omega, hx.m0, m1, hx.n0, hx.n1, hx.e0, hx.e1, hx.em⟩
 ·rw [if_neg h0] at h; cases h
theorem len_step (pre : List Ed) (x : Ed) (h : pre.length ≤ 1000000) : wrap64 ((pre.length : Int) + 1) = ((pre ++ [x]).length : Int) := by rw [w64 (by omega) (by omega)]; simp
theorem faster_l {ms ts num den : Int} (hc : Ck ms ts) (hr : Rt num den) (l : List Ed) (hV : ∀ x ∈ l, Vd x) (hl : l.length ≤ 1000) (rest : List Ed) :
  ∀ pre out, l = pre ++ rest → (∀ x ∈ out, Vd x) → out.length ≤ pre.length →
   Ev (fun k => edit_Faster.l0 k ms ts num den out l (l.length : Int) (pre.length : Int)) (mapE (fastV num den) (nrmV ms ts) out rest) := by
 induction rest with
 | nil =>
  intro pre out he hw ho
  simp only [List.append_nil] at he
  subst he
  refine Ev.step (fun k => by rw [edit_Faster.l0]) ?_
  exact Ev.congr (fun k => if_neg (by omega)) (Ev.bind (normal_f hc out hw (by omega)) (Ev.now _))
 | cons x t ih =>
  intro pre out he hw ho
  have hlen : l.length = pre.length + (t.length + 1) := by rw [he]; simp
  have hx : rd_T77 l (pre.length : Int) = x := by rw [he]; exact rd_at pre x t
  have hv : Vd x := hV x (by rw [he]; simp)
  have r0 := hr.n0
  have r1 := hr.n1
  have hp := prod_bd 1099511627776 1000 hv.d0 hv.d1 hr.d0 hr.d1
  have nx : ∀ y, fastV num den x = (0, y) → Ev (fun k => edit_Faster.l0 k ms ts num den (out ++ [y]) l (l.length : Int) (wrap64 ((pre.length : Int) + 1))) (mapE (fastV num den) (nrmV ms ts) out (x :: t)) := by
   intro y hy
   rw [mapE_ok hy, len_step pre x (by omega)]
   refine ih (pre ++ [x]) (out ++ [y]) (by rw [he]; simp) ?_ (by simp; omega)
   intro z hz
   rcases List.mem_append.1 hz with hz | hz
   ·exact hw z hz
   ·rw [List.mem_singleton] at hz
    rw [hz]
    exact fast_vd hr hv hy
  have hF := fastV_eq num den x
  have hw1 : wrap64 (x.f0 * den) = x.f0 * den := w64 (by omega) (by omega)
  have htm : Int.tmod (x.f0 * den) num = x.f0 * den % num := Int.tmod_eq_emod_of_nonneg (by omega)
  have htd : Int.tdiv (x.f0 * den) num = x.f0 * den / num := Int.tdiv_eq_ediv_of_nonneg (by omega)
  have hq1 : x.f0 * den / num ≤ x.f0 * den := quot_le (by omega)
  have hq0 : 0 ≤ x.f0 * den / num := Int.ediv_nonneg (by omega) (by omega)
  have hwq : wrap64 (x.f0 * den / num) = x.f0 * den / num := w64 (by omega) (by omega)
  refine Ev.step (fun k => by rw [edit_Faster.l0]) ?_
  refine Ev.congr (fun k => if_pos (by omega)) (Ev.congr (fun k => if_pos (by omega)) (Ev.congr (fun k => if_pos (by omega)) (Ev.congr (fun k => if_neg (by omega)) ?_)))
  rw [hx, hw1, htm, htd, hwq]
  generalize x.f0 * den = A at *
  by_cases h0 : A % num = 0
  ·rw [if_pos h0] at hF
   refine Ev.congr (fun k => if_pos h0) ?_
   generalize A / num = d at *
   have still : ¬ (0 ≤ x.f1 ∧ 0 < x.f2) → Ev (fun k => edit_Faster.j2 k ms ts num den out l (l.length : Int) (pre.length : Int) false d x.f1 x.f2 x.f3) (mapE (fastV num den) (nrmV ms ts) out (x :: t)) := by
    intro hm
    rw [if_neg (fun h => hm h.1)] at hF
    refine Ev.step (fun k => by rw [edit_Faster.j2]) ?_
    refine Ev.congr (fun k => if_neg (by decide)) ?_
    by_cases hb : 1099511627776 < d
    ·rw [if_pos hb] at hF
     rw [mapE_err hF (by decide)]
     exact Ev.congr (fun k => if_pos hb) (Ev.now _)
    ·rw [if_neg hb] at hF
     have hfe : fstE num den d x = ⟨d, x.f1, x.f2, x.f3⟩ := if_neg hm
     rw [hfe] at hF
     exact Ev.congr (fun k => if_neg hb) (Ev.congr (fun k => if_pos (by omega)) (nx _ hF))
   by_cases hm : 0 ≤ x.f1
   ·refine Ev.congr (fun k => if_pos hm) ?_
    by_cases hp2 : 0 < x.f2
    ·rw [decide_eq_true (show x.f2 > 0 from hp2)]
     have hn1 := hv.n1
     have p1 := prod_bd 1000 1000 (show 1 ≤ x.f2 by omega) hn1 hr.n0 hr.n1
     have p2 := prod_bd 1000 1000 hv.e0 hv.e1 hr.d0 hr.d1
     have hlo : edit_lowest.f d x.f1 (wrap64 (x.f2 * num)) (wrap64 (x.f3 * den)) = some (d, x.f1, (fstE num den d x).f2, (fstE num den d x).f3) := by
      rw [w64 (by omega) (by omega), w64 (by omega) (by omega)]
      unfold edit_lowest.f rateOk fstE lowV
      rw [if_pos (⟨hm, hp2⟩ : 0 ≤ x.f1 ∧ 0 < x.f2), decide_eq_true (show 0 ≤ x.f2 * num by omega), decide_eq_true (show x.f2 * num ≤ 1000000 by omega), decide_eq_true p2.1, decide_eq_true (show x.f3 * den ≤ 1000000 by omega)]
      rfl
     have hfe : fstE num den d x = ⟨d, x.f1, (fstE num den d x).f2, (fstE num den d x).f3⟩ := by
      unfold fstE
      rw [if_pos (⟨hm, hp2⟩ : 0 ≤ x.f1 ∧ 0 < x.f2)]
      rfl
     refine Ev.step (fun k => by rw [edit_Faster.j2]) ?_
     refine Ev.congr (fun k => if_pos rfl) ?_
     rw [hlo]
     simp only [Option.bind_some]
     generalize hy2 : (fstE num den d x).f2 = y2 at *
     generalize hy3 : (fstE num den d x).f3 = y3 at *
     have go : Ev (fun k => edit_Faster.j3 k ms ts num den out l (l.length : Int) (pre.length : Int) (decide (1000 < y2 ∨ 1000 < y3)) d x.f1 y2 y3) (mapE (fastV num den) (nrmV ms ts) out (x :: t)) := by
      refine Ev.step (fun k => by rw [edit_Faster.j3]) ?_
      by_cases hb : 1000 < y2 ∨ 1000 < y3
      ·rw [if_pos ⟨⟨hm, hp2⟩, hb⟩] at hF
       rw [mapE_err hF (by decide)]
       exact Ev.congr (fun k => if_pos (decide_eq_true hb)) (Ev.now _)
      ·rw [if_neg (fun h => hb h.2)] at hF
       refine Ev.congr (fun k => if_neg (by rw [decide_eq_false hb]; decide)) ?_
       by_cases hb2 : 1099511627776 < d
       ·rw [if_pos hb2] at hF
        rw [mapE_err hF (by decide)]
        exact Ev.congr (fun k => if_pos hb2) (Ev.now _)
       ·rw [if_neg hb2, hfe] at hF
        exact Ev.congr (fun k => if_neg hb2) (Ev.congr (fun k => if_pos (by omega)) (nx _ hF))
     by_cases hb : y2 > 1000
     ·rw [decide_eq_true (.inl hb)] at go
      exact Ev.congr (fun k => if_pos hb) go
     ·have e : decide (1000 < y2 ∨ 1000 < y3) = decide (y3 > 1000) := by
       congr 1
       apply propext
       omega
      rw [e] at go
      exact Ev.congr (fun k => if_neg hb) go
    ·rw [decide_eq_false (show ¬ x.f2 > 0 from hp2)]
     exact still (fun h => hp2 h.2)
   ·exact Ev.congr (fun k => if_neg hm) (still (fun h => hm h.1))
  ·rw [if_neg h0] at hF
   rw [mapE_err hF (by decide)]
   exact Ev.congr (fun k => if_neg h0) (Ev.now _)
theorem rfaster_l {ms ts num den : Int} (hc : Ck ms ts) (hr : Rt num den) (l : List Ed) (hV : ∀ x ∈ l, Vd x) (hl : l.length ≤ 1000) (rest : List Ed) :
  ∀ pre out, l = pre ++ rest → (∀ x ∈ out, Vd x) → out.length ≤ pre.length →
   Ev (fun k => dioramaref10_Faster.l0 k l ms ts num den out (pre.length : Int)) (mapE (fastV num den) (nrmV ms ts) out rest) := by
 induction rest with
 | nil =>
  intro pre out he hw ho
  simp only [List.append_nil] at he
  subst he
  refine Ev.step (fun k => by rw [dioramaref10_Faster.l0]) ?_
  exact Ev.congr (fun k => if_neg (by omega)) (Ev.bind (told_f hc out hw (by omega)) (Ev.now _))
 | cons x t ih =>
  intro pre out he hw ho
  have hlen : l.length = pre.length + (t.length + 1) := by rw [he]; simp
  have hx : rd_T77 l (pre.length : Int) = x := by rw [he]; exact rd_at pre x t
  have hv : Vd x := hV x (by rw [he]; simp)
  have r0 := hr.n0
  have r1 := hr.n1
  have r2 := hr.d0
  have r3 := hr.d1
  have hd0 := hv.d0
  have hd1 := hv.d1
  have hp := prod_bd 1099511627776 1000 hv.d0 hv.d1 hr.d0 hr.d1
  have nx : ∀ y, fastV num den x = (0, y) → Ev (fun k => dioramaref10_Faster.l0 k l ms ts num den (out ++ [y]) (wrap64 ((pre.length : Int) + 1))) (mapE (fastV num den) (nrmV ms ts) out (x :: t)) := by
   intro y hy
   rw [mapE_ok hy, len_step pre x (by omega)]
   refine ih (pre ++ [x]) (out ++ [y]) (by rw [he]; simp) ?_ (by simp; omega)
   intro z hz
   rcases List.mem_append.1 hz with hz | hz
   ·exact hw z hz
   ·rw [List.mem_singleton] at hz
    rw [hz]
    exact fast_vd hr hv hy
  have hF := fastV_eq num den x
  obtain ⟨b1, x1, y1, e1, v1⟩ := ratio_f x.f0 1 (by omega) (by omega) (by omega) (by omega)
  obtain ⟨b2, x2, y2, e2, v2⟩ := ratio_f den num (by omega) (by omega) (by omega) (by omega)
  obtain ⟨b3, x3, y3, e3, v3⟩ := timesR_f v1 v2 (by omega)
  have hqq : qq x.f0 1 * qq den num = qq (x.f0 * den) num := by
   unfold qq
   rw [Rat.divInt_mul_divInt, Int.one_mul]
  rw [hqq] at v3
  have hwh := whole_f v3 (by omega) (qq_nonneg (by omega) (by omega))
  rw [whV_qq (by omega)] at hwh
  refine Ev.step (fun k => by rw [dioramaref10_Faster.l0]) ?_
  refine Ev.congr (fun k => if_pos (by omega)) (Ev.congr (fun k => if_pos (by omega)) ?_)
  rw [hx]
  refine Ev.bind e1 (Ev.bind e2 (Ev.bind e3 (Ev.bind hwh ?_)))
  generalize x.f0 * den = A at *
  by_cases h0 : A % num = 0
  ·rw [if_pos h0] at hF ⊢
   generalize A / num = d at *
   have hie : ∀ a : Int, dioramaref10_isEmpty.f a x.f1 x.f2 x.f3 = some (decide (x.f1 = -1)) := by
    intro a
    unfold dioramaref10_isEmpty.f
    rfl
   have hm0 := hv.m0
   have main : ∀ D E : Int, (1099511627776 < d → E = 2) → (¬ 1099511627776 < d → D = d ∧ E = 0) → Ev (fun k => if E = 20 then (some (([] : List Ed), E)) else ((dioramaref10_isEmpty.f D x.f1 x.f2 x.f3).bind fun t480 => (if t480 = true then (dioramaref10_Faster.j2 k l ms ts num den E out (pre.length : Int) false D x.f1 x.f2 x.f3) else (dioramaref10_Faster.j2 k l ms ts num den E out (pre.length : Int) (decide (x.f2 > 0)) D x.f1 x.f2 x.f3)))) (mapE (fastV num den) (nrmV ms ts) out (x :: t)) := by
    intro D E hE1 hE2
    refine Ev.congr (fun k => if_neg (by omega)) ?_
    rw [hie]
    simp only [Option.bind_some, decide_eq_true_eq]
    have still : ¬ (0 ≤ x.f1 ∧ 0 < x.f2) → Ev (fun k => dioramaref10_Faster.j2 k l ms ts num den E out (pre.length : Int) false D x.f1 x.f2 x.f3) (mapE (fastV num den) (nrmV ms ts) out (x :: t)) := by
     intro hm
     rw [if_neg (fun h => hm h.1)] at hF
     refine Ev.step (fun k => by rw [dioramaref10_Faster.j2]) ?_
     refine Ev.congr (fun k => if_neg (by decide)) ?_
     by_cases hb : 1099511627776 < d
     ·rw [if_pos hb] at hF
      rw [mapE_err hF (by decide), hE1 hb]
      exact Ev.congr (fun k => if_neg (by decide)) (Ev.now _)
     ·obtain ⟨rfl, rfl⟩ := hE2 hb
      rw [if_neg hb] at hF
      have hfe : fstE num den D x = ⟨D, x.f1, x.f2, x.f3⟩ := if_neg hm
      rw [hfe] at hF
      exact Ev.congr (fun k => if_pos rfl) (Ev.congr (fun k => if_pos (by omega)) (nx _ hF))
    by_cases hm : x.f1 = -1
    ·exact Ev.congr (fun k => if_pos hm) (still (fun h => by omega))
    ·refine Ev.congr (fun k => if_neg hm) ?_
     by_cases hp2 : 0 < x.f2
     ·rw [decide_eq_true (show x.f2 > 0 from hp2)]
      have hn1 := hv.n1
      have p1 := prod_bd 1000 1000 (show 1 ≤ x.f2 by omega) hn1 hr.n0 hr.n1
      have p2 := prod_bd 1000 1000 hv.e0 hv.e1 hr.d0 hr.d1
      have hmm : 0 ≤ x.f1 ∧ 0 < x.f2 := ⟨by omega, hp2⟩
      have hlo : dioramaref10_lowest.f D x.f1 (wrap64 (x.f2 * num)) (wrap64 (x.f3 * den)) = some (D, x.f1, (fstE num den d x).f2, (fstE num den d x).f3) := by
       rw [w64 (by omega) (by omega), w64 (by omega) (by omega)]
       unfold dioramaref10_lowest.f rateOk fstE lowV
       rw [if_pos hmm, decide_eq_true (show 0 ≤ x.f2 * num by omega), decide_eq_true (show x.f2 * num ≤ 1000000 by omega), decide_eq_true p2.1, decide_eq_true (show x.f3 * den ≤ 1000000 by omega)]
       rfl
      have hfe : fstE num den d x = ⟨d, x.f1, (fstE num den d x).f2, (fstE num den d x).f3⟩ := by
       unfold fstE
       rw [if_pos hmm]
       rfl
      refine Ev.step (fun k => by rw [dioramaref10_Faster.j2]) ?_
      refine Ev.congr (fun k => if_pos rfl) ?_
      rw [hlo]
      simp only [Option.bind_some]
      generalize hy2 : (fstE num den d x).f2 = y2 at *
      generalize hy3 : (fstE num den d x).f3 = y3 at *
      have go : Ev (fun k => dioramaref10_Faster.j3 k l ms ts num den E out (pre.length : Int) (decide (1000 < y2 ∨ 1000 < y3)) D x.f1 y2 y3) (mapE (fastV num den) (nrmV ms ts) out (x :: t)) := by
       refine Ev.step (fun k => by rw [dioramaref10_Faster.j3]) ?_
       by_cases hb : 1000 < y2 ∨ 1000 < y3
       ·rw [if_pos ⟨hmm, hb⟩] at hF
        rw [mapE_err hF (by decide)]
        exact Ev.congr (fun k => if_pos (decide_eq_true hb)) (Ev.now _)
       ·rw [if_neg (fun h => hb h.2)] at hF
        refine Ev.congr (fun k => if_neg (by rw [decide_eq_false hb]; decide)) ?_
        by_cases hb2 : 1099511627776 < d
        ·rw [if_pos hb2] at hF
         rw [mapE_err hF (by decide), hE1 hb2]
         exact Ev.congr (fun k => if_neg (by decide)) (Ev.now _)
        ·obtain ⟨rfl, rfl⟩ := hE2 hb2
         rw [if_neg hb2, hfe] at hF
         exact Ev.congr (fun k => if_pos rfl) (Ev.congr (fun k => if_pos (by omega)) (nx _ hF))
      by_cases hb : y2 > 1000
      ·rw [decide_eq_true (.inl hb)] at go
       exact Ev.congr (fun k => if_pos hb) go
      ·have e : decide (1000 < y2 ∨ 1000 < y3) = decide (y3 > 1000) := by
        congr 1
        apply propext
        omega
       rw [e] at go
       exact Ev.congr (fun k => if_neg hb) go
     ·rw [decide_eq_false (show ¬ x.f2 > 0 from hp2)]
      exact still (fun h => hp2 h.2)
   by_cases hb : 1099511627776 < d
   ·rw [if_pos hb]
    exact main 0 2 (fun _ => rfl) (fun h => absurd hb h)
   ·rw [if_neg hb]
    exact main d 0 (fun h => absurd h hb) (fun _ => ⟨rfl, rfl⟩)
  ·rw [if_neg h0] at hF ⊢
   rw [mapE_err hF (by decide)]
   exact Ev.congr (fun k => if_pos rfl) (Ev.now _)
def fasV (ms ts num den : Int) (l : List Ed) : List Ed × Int := if chk l ms ts = 0 then (if 1 ≤ num ∧ num ≤ 1000 ∧ 1 ≤ den ∧ den ≤ 1000 then mapE (fastV num den) (nrmV ms ts) [] l else ([], 1)) else ([], chk l ms ts)
theorem Faster_f (l : List Ed) (ms ts num den : Int) : Ev (fun k => edit_Faster.f k l ms ts num den) (fasV ms ts num den l) := by
 unfold fasV
 by_cases h0 : chk l ms ts = 0
 ·obtain ⟨hc, hl, hV, hs⟩ := chk_ok.1 h0
  rw [if_pos h0]
  have h1 := check_f l ms ts
  rw [h0] at h1
  refine Ev.congr (fun k => rfl) (Ev.bind h1 (Ev.congr (fun k => if_pos rfl) ?_))
  have bad : ¬ (1 ≤ num ∧ num ≤ 1000 ∧ 1 ≤ den ∧ den ≤ 1000) → Ev (fun k => edit_Faster.j0 k l ms ts num den true) (if 1 ≤ num ∧ num ≤ 1000 ∧ 1 ≤ den ∧ den ≤ 1000 then mapE (fastV num den) (nrmV ms ts) [] l else ([], 1)) := by
   intro h
   rw [if_neg h]
   exact Ev.step (fun k => by rw [edit_Faster.j0]) (Ev.congr (fun k => if_pos rfl) (Ev.now _))
  by_cases h1 : num < 1
  ·exact Ev.congr (fun k => if_pos h1) (bad (by omega))
  refine Ev.congr (fun k => if_neg h1) ?_
  by_cases h2 : num > 1000
  ·exact Ev.congr (fun k => if_pos h2) (bad (by omega))
  refine Ev.congr (fun k => if_neg h2) ?_
  by_cases h3 : den < 1
  ·exact Ev.congr (fun k => if_pos h3) (bad (by omega))
  refine Ev.congr (fun k => if_neg h3) ?_
  by_cases h4 : den > 1000
  ·rw [decide_eq_true h4]
   exact bad (by omega)
  ·rw [decide_eq_false h4, if_pos (by omega)]
   refine Ev.step (fun k => by rw [edit_Faster.j0]) (Ev.congr (fun k => if_neg (by decide)) ?_)
   exact faster_l hc ⟨by omega, by omega, by omega, by omega⟩ l hV (by omega) l [] [] rfl (by simp) (by simp)
 ·rw [if_neg h0]
  refine Ev.congr (fun k => rfl) (Ev.bind (check_f l ms ts) ?_)
  refine Ev.congr (fun k => if_neg h0) (Ev.now _)
theorem rFaster_f (l : List Ed) (ms ts num den : Int) : Ev (fun k => dioramaref10_Faster.f k l ms ts num den) (fasV ms ts num den l) := by
 unfold fasV
 by_cases h0 : chk l ms ts = 0
 ·obtain ⟨hc, hl, hV, hs⟩ := chk_ok.1 h0
  rw [if_pos h0]
  have h1 := rcheck_f l ms ts
  rw [h0] at h1
  refine Ev.congr (fun k => rfl) (Ev.bind h1 (Ev.congr (fun k => if_pos rfl) ?_))
  have bad : ¬ (1 ≤ num ∧ num ≤ 1000 ∧ 1 ≤ den ∧ den ≤ 1000) → Ev (fun k => dioramaref10_Faster.j0 k l ms ts num den true) (if 1 ≤ num ∧ num ≤ 1000 ∧ 1 ≤ den ∧ den ≤ 1000 then mapE (fastV num den) (nrmV ms ts) [] l else ([], 1)) := by
   intro h
   rw [if_neg h]
   exact Ev.step (fun k => by rw [dioramaref10_Faster.j0]) (Ev.congr (fun k => if_pos rfl) (Ev.now _))
  by_cases h1 : num < 1
  ·exact Ev.congr (fun k => if_pos h1) (bad (by omega))
  refine Ev.congr (fun k => if_neg h1) ?_
  by_cases h2 : num > 1000
  ·exact Ev.congr (fun k => if_pos h2) (bad (by omega))
  refine Ev.congr (fun k => if_neg h2) ?_
  by_cases h3 : den < 1
  ·exact Ev.congr (fun k => if_pos h3) (bad (by omega))
  refine Ev.congr (fun k => if_neg h3) ?_
  by_cases h4 : den > 1000
  ·rw [decide_eq_true h4]
   exact bad (by omega)
  ·rw [decide_eq_false h4, if_pos (by omega)]
   refine Ev.step (fun k => by rw [dioramaref10_Faster.j0]) (Ev.congr (fun k => if_neg (by decide)) ?_)
   exact rfaster_l hc ⟨by omega, by omega, by omega, by omega⟩ l hV (by omega) l [] [] rfl (by simp) (by simp)
 ·rw [if_neg h0]
  refine Ev.congr (fun k => rfl) (Ev.bind (rcheck_f l ms ts) ?_)
  refine Ev.congr (fun k => if_neg h0) (Ev.now _)
theorem nrmV_len (ms ts : Int) (l : List Ed) : (nrmV ms ts l).1.length ≤ 20 := by
 unfold nrmV fin
 split
 ·simp
 ·split
  ·simp
  ·simp only [List.length_reverse]; omega
theorem mapE_len (f : Ed → Int × Ed) (fin : List Ed → List Ed × Int) (hf : ∀ l, (fin l).1.length ≤ 20) (l : List Ed) : ∀ out, (mapE f fin out l).1.length ≤ 20 := by
 induction l with
 | nil => intro out; exact hf out
 | cons x t ih =>
  intro out
  simp only [mapE]
  split
  ·exact ih _
  ·simp
theorem fasV_len (ms ts num den : Int) (l : List Ed) : (fasV ms ts num den l).1.length ≤ 20 := by
 unfold fasV
 split
 ·split
  ·exact mapE_len _ _ (nrmV_len ms ts) l []
  ·simp
 ·simp
theorem pure_f (l : List Ed) (ms ts num den : Int) : Ev (fun k => dioramalaw10_EditFaster.f k l ms ts num den) true := by
 have hf : ∀ k, dioramalaw10_EditFaster.f k l ms ts num den = (some (decide (60 < l.length))).bind fun t => (if t = true then ((dioramalaw10_awake.f k).bind fun t => (some t)) else ((edit_Faster.f k l ms ts num den).bind fun b1 => ((dioramaref10_Faster.f k l ms ts num den).bind fun b2 => ((dioramalaw10_eq.f k b1.1 b1.2 b2.1 b2.2).bind fun t => (if t = true then ((dioramalaw10_awake.f k).bind fun t => (some t)) else (some false)))))) := by
  intro k
  unfold dioramalaw10_EditFaster.f
  rw [many_f]
 refine Ev.congr hf ?_
 simp only [Option.bind_some, decide_eq_true_eq]
 by_cases h1 : 60 < l.length
 ·exact Ev.congr (fun k => if_pos h1) (Ev.bind awake_f (Ev.now _))
 ·refine Ev.congr (fun k => if_neg h1) (Ev.bind (Faster_f l ms ts num den) (Ev.bind (rFaster_f l ms ts num den) (Ev.bind (eq_f _ _ (by have := fasV_len ms ts num den l; omega)) ?_)))
  exact Ev.congr (fun k => if_pos rfl) (Ev.bind awake_f (Ev.now _))
theorem walk (a : Option Addr) (n c : Nat) (l : List Ed) (ms ts num den : Int) (w : World) (h : Eds w a n c l) (_ : (Lit.int .i64 ms).wf = true) (_ : (Lit.int .i64 ts).wf = true) (_ : (Lit.int .i64 num).wf = true) (_ : (Lit.int .i64 den).wf = true) :
  Calls Try.prog 4 #[.agg #[.slice a n c, .int .i64 ms, .int .i64 ts], .int .i64 num, .int .i64 den] w (fun e w' => e = .returned (.bool true) ∧ Below w.heap.size w w') := by
 obtain ⟨k, hk⟩ := (pure_f l ms ts num den).rounds
 rw [← h.n]
 exact dioramalaw10_EditFaster.calls k a c l ms ts num den true w h.c h.h hk
end Go.Proofs.Ytpbhepdgamoiaaa.Fr
namespace Go.Proofs.Ytpbhepdgamoiaaa.editFasterRow
open Go.ChangeShapes Go.WideShapes Go.ChangeAt Go.RowKit Go.Proofs.Ytpbhepdgamoiaaa.Oe
set_option linter.unusedVariables false
set_option maxRecDepth 100000 in
theorem lifted (os : Os) (started : os.Started) (H : Type) (enc : TypeId × Value → H) :
  ReturnsInHanded {} Try.checked os 4 .any (Rows.editFasterSpec.pre6 enc Try.prog Try.f4 Rows.editFasterRow.domain false) (Rows.editFasterSpec.post enc Try.prog Try.f4 false true false false) := by
 refine returnsInHanded_of_change_sized (C := Try.checked) own started (by kernel_rfl) Try.func4
  (ChangeSpec.witness6 (enc := enc) (C := Try.checked) false ⟨#[], #[.agg #[.slice none 0 0, .int .i64 0, .int .i64 0], .int .i64 0, .int .i64 0], []⟩ 8 (by kernel_rfl) (by kernel_rfl) (by kernel_rfl) (by kernel_rfl)) ?_
 intro W base args ds gs before hval0 hW hcnd hsz0 _
 have hval : ∀ (j : Nat) t v, Try.f4.params[j]? = some t → args[j]? = some v → Value.okWide Try.prog W .any base t v := hval0
 have hW' := hW
 obtain ⟨p, q, hA0, hV, rfl, hfz, hnd⟩ := hW
 have hA : DataW.TrodAll enc Try.prog W 0 (fun _ => true) true Try.f4.params.toList args.toList ds p := hA0
 rw [Try.params4] at hA hval
 obtain ⟨v0, vs0, d0, ds0, p0, q0, hargs, rfl, rfl, h0, r0⟩ := trodAll_cons hA
 obtain ⟨v1, vs1, d1, ds1, p1, q1, rfl, rfl, rfl, h1, r1⟩ := trodAll_cons r0
 obtain ⟨v2, vs2, d2, ds2, p2, q2, rfl, rfl, rfl, h2, r2⟩ := trodAll_cons r1
 obtain ⟨rfl, rfl, rfl⟩ := trodAll_nil r2
 obtain rfl : args = #[v0, v1, v2] := by cases args; simp_all
 obtain ⟨rfl, rfl⟩ := trodVars_none hV
 have k0 := h0
 have lt0 : ∀ x ∈ p0, x.block < W.heap.size := by obtain ⟨m, hm⟩ := k0; exact DataW.trod_lt m _ _ _ hm
 obtain ⟨a0, len0, cap0, z0, m0, t0, rfl, w0, wm0, wt0⟩ := open_list (hval 0 24 v0 rfl rfl) h0
 obtain ⟨a1, rfl, rfl, rfl, w1⟩ := open_int Try.underlying3 (hval 1 3 v1 rfl rfl) h1
 obtain ⟨a2, rfl, rfl, rfl, w2⟩ := open_int Try.underlying3 (hval 2 3 v2 rfl rfl) h2
 clear hA0 hval0 hsz0
 refine (Fr.walk a0 len0 cap0 z0 m0 t0 a1 a2 W w0 wm0 wt0 w1 w2).mono fun e W' ⟨he, bel⟩ => ?_
 subst he
 exact ⟨_, rfl, _, _, _, [], _, [], hW', trodAll_mk1 (shut_bool Try.underlying4 _), (trodAll_cons_mk (Below.trod laidOut (by kernel_rfl) (of_decide_eq_true (by kernel_rfl)) k0 bel lt0) (trodAll_cons_mk (shut_int Try.underlying3 w1) (trodAll_cons_mk (shut_int Try.underlying3 w2) trodAll_mk0))), rfl, bel.frame _, fun h => by cases h⟩
theorem over : Rows.editFasterRow.holds Try.pinned (OpenSpec.ofChange Rows.editFasterSpec) :=
 OpenClaim.holds_of_wide 4 Try.f4 rfl rfl rfl rfl rfl rfl rfl ⟨rfl, rfl, rfl, rfl, rfl⟩ rfl rfl rfl rfl rfl (by kernel_rfl) Try.func4 (by kernel_rfl)
  (of_decide_eq_true (by kernel_rfl)) (by unfold Func.isWrapper; first | (rw [if_pos (by decide +kernel)]; kernel_rfl) | (rw [if_neg (by decide +kernel)]; exact ⟨rfl, rfl⟩))
  (fun os started H enc _ => lifted os started H enc)
end Go.Proofs.Ytpbhepdgamoiaaa.editFasterRow
namespace Go.Proofs.Ytpbhepdgamoiaaa
theorem editFaster_holds : Rows.EditFasterSaid := editFasterRow.over
#print axioms editFaster_holds
end Go.Proofs.Ytpbhepdgamoiaaa

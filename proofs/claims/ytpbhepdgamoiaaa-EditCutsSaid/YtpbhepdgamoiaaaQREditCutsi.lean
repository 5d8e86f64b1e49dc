/-
  The reference's normal list is the same. What the reference tells of a list: its normal list, its first error, its length. The reference's whole number of a rational number. What a normal list shows, and how long it is. The reference's first error and length; lists compared. Two lists of edits with their errors, compared. EditFaster: a list that is so many times as fast is as the reference says. EditClocks: a list by other clocks is as the reference says. What a list by other clocks and a faster list show. Two lists that show the same are seen to. What is left of a list between two ticks, as a plain value, and that the code tells it. Lists put behind one another: slices.Grow and Concat, and what stands on them. The reference's cut list is the same. The reference's lists put behind one another: Join and Delay. EditCuts: a list that is cut, and one that is later or earlier, are as the reference says.
-/
import Derived.Test.YtpbhepdgamoiaaaQREditCutsh
import Derived.Test.YtpbhepdgamoiaaaQREditCutsc
import Derived.Outline
import Derived.Test.YtpbhepdgamoiaaaQREditCutsa
import Derived.Test.YtpbhepdgamoiaaaQREditCutsd
import Derived.Test.YtpbhepdgamoiaaaQREditCutsg
namespace Go.Proofs.Ytpbhepdgamoiaaa.Qn
open Go.RowKit Go Go.Proofs.YtpbhepdgamoiaaaW.PrintWords Go.Proofs.YtpbhepdgamoiaaaW.PrintLast Go.Proofs.YtpbhepdgamoiaaaW.PrintMore Go.Proofs.Ytpbhepdgamoiaaa.Ml Go.Proofs.Ytpbhepdgamoiaaa.Mn Go.Proofs.Ytpbhepdgamoiaaa.Nd Go.Proofs.Ytpbhepdgamoiaaa.Pa Go.Proofs.Ytpbhepdgamoiaaa.Pb Go.Proofs.Ytpbhepdgamoiaaa.Rf Go.Proofs.Ytpbhepdgamoiaaa.Er Go.Proofs.Ytpbhepdgamoiaaa.Ek Go.Proofs.Ytpbhepdgamoiaaa.E Go.Proofs.Ytpbhepdgamoiaaa.Pe Go.Proofs.Ytpbhepdgamoiaaa.Pf Go.Proofs.Ytpbhepdgamoiaaa.Pg Go.Proofs.Ytpbhepdgamoiaaa.Qr
set_option linter.unusedVariables false
set_option linter.unusedSimpArgs false
def Lw (x : Ed) : Prop := (qq x.f2 x.f3).num = x.f2 ∧ ((qq x.f2 x.f3).den : Int) = x.f3
theorem qq_self (q : Rat) : qq q.num (q.den : Int) = q := by unfold qq; exact Rat.num_divInt_den q
theorem lw_low (x : Ed) : Lw (lowV x) := by
 unfold Lw lowV
 simp only [qq_self]
 exact ⟨trivial, trivial⟩
theorem qq_eq {a b c d : Int} (hb : b ≠ 0) (hd : d ≠ 0) : qq a b = qq c d ↔ a * d = c * b := by
 unfold qq
 exact Rat.divInt_eq_divInt_iff hb hd
def ovR (ms ts : Int) (a b : Ed) : Bool :=
 if a.f1 = -1 ∨ b.f1 = -1 then decide (a.f1 = -1 ∧ b.f1 = -1)
 else if a.f2 = 0 ∨ b.f2 = 0 then decide (a.f2 = 0 ∧ b.f2 = 0 ∧ a.f1 = b.f1)
 else decide (a.f2 * b.f3 = b.f2 * a.f3 ∧ qq a.f1 ts + qq a.f0 ms * qq a.f2 a.f3 = qq b.f1 ts)
theorem qq_div (a b : Int) : qq a b = (a : Rat) / (b : Rat) := by unfold qq; exact Rat.divInt_eq_div a b
theorem cast_ne {n : Int} (h : 1 ≤ n) : ((n : Int) : Rat) ≠ 0 := by
 intro e
 have : n = 0 := by exact_mod_cast e
 omega
theorem after_iff {ms ts a b d n e : Int} (hm : 1 ≤ ms) (ht : 1 ≤ ts) (he : 1 ≤ e) : (afterQ ms ts a n e d = qq b 1) ↔ (qq a ts + qq d ms * qq n e = qq b ts) := by
 unfold afterQ
 simp only [qq_div]
 have h1 := cast_ne hm
 have h2 := cast_ne ht
 have h3 := cast_ne he
 have h4 : ((1 : Int) : Rat) = 1 := rfl
 rw [h4]
 generalize (ms : Rat) = M at *
 generalize (ts : Rat) = T at *
 generalize (e : Rat) = E at *
 generalize (n : Rat) = N at *
 generalize (d : Rat) = D at *
 generalize (a : Rat) = A at *
 generalize (b : Rat) = B at *
 constructor
 ·intro h; grind
 ·intro h; grind
theorem cmpQ_zero (p q : Rat) : (cmpQ p q == 0) = decide (p = q) := by
 unfold cmpQ
 by_cases h : p < q
 ·rw [if_pos h, decide_eq_false (by intro e; subst e; exact Rat.lt_irrefl h)]; rfl
 ·rw [if_neg h]
  by_cases h2 : q < p
  ·rw [if_pos h2, decide_eq_false (by intro e; subst e; exact Rat.lt_irrefl h2)]; rfl
  ·rw [if_neg h2, decide_eq_true (by grind)]; rfl
theorem low_zero {n e : Int} (h0 : 0 ≤ n) (he : 1 ≤ e) : (qq n e).num = 0 ↔ n = 0 := by
 obtain ⟨g, hg, e1, e2⟩ := qq_parts (a := n) (b := e) (by omega)
 constructor
 ·intro h; rw [h] at e1; omega
 ·intro h
  rcases Int.mul_eq_zero.1 (e1.symm.trans h) with h2 | h2
  ·exact h2
  ·omega
theorem ovR1 {ms ts : Int} {a b : Ed} (h : a.f1 = -1 ∨ b.f1 = -1) : ovR ms ts a b = decide (a.f1 = -1 ∧ b.f1 = -1) := if_pos h
theorem ovR2 {ms ts : Int} {a b : Ed} (h : ¬ (a.f1 = -1 ∨ b.f1 = -1)) (h2 : a.f2 = 0 ∨ b.f2 = 0) : ovR ms ts a b = decide (a.f2 = 0 ∧ b.f2 = 0 ∧ a.f1 = b.f1) := (if_neg h).trans (if_pos h2)
theorem ovR3 {ms ts : Int} {a b : Ed} (h : ¬ (a.f1 = -1 ∨ b.f1 = -1)) (h2 : ¬ (a.f2 = 0 ∨ b.f2 = 0)) : ovR ms ts a b = decide (a.f2 * b.f3 = b.f2 * a.f3 ∧ qq a.f1 ts + qq a.f0 ms * qq a.f2 a.f3 = qq b.f1 ts) := (if_neg h).trans (if_neg h2)
theorem ov_eq {ms ts : Int} (hc : Ck ms ts) {a b : Ed} (ha : Wd a) (hl : Lw a) (hb : Vd b) : ovV ms ts a (lowV b) = ovR ms ts a b := by
 have c0 := hc.m0
 have c2 := hc.t0
 have a1 := ha.m0
 have a3 := ha.n0
 have a5 := ha.e0
 have b1 := hb.m0
 have b3 := hb.n0
 have b5 := hb.e0
 have hz := low_zero b3 b5
 have hlb : (lowV b).f1 = b.f1 := rfl
 have hlb2 : (lowV b).f2 = (qq b.f2 b.f3).num := rfl
 have hlb3 : (lowV b).f3 = ((qq b.f2 b.f3).den : Int) := rfl
 by_cases ea : a.f1 = -1
 ·rw [ovR1 (Or.inl ea)]
  unfold ovV overB kinB kB kS kN kE
  rw [hlb, hlb2, hlb3, cmpQ_zero, ea]
  by_cases eb : b.f1 = -1
  ·rw [eb]; simp
  ·have : ¬ b.f1 < 0 := by omega
   simp [this, eb]
 ·have na : ¬ a.f1 < 0 := by omega
  by_cases eb : b.f1 = -1
  ·rw [ovR1 (Or.inr eb)]
   unfold ovV overB kinB kB kS kN kE
   rw [hlb, hlb2, hlb3, cmpQ_zero, eb]
   simp [na, ea]
  ·have nb : ¬ b.f1 < 0 := by omega
   have hne : ¬ (a.f1 = -1 ∨ b.f1 = -1) := by omega
   by_cases za : a.f2 = 0
   ·rw [ovR2 hne (Or.inl za)]
    unfold ovV overB kinB kB kS kN kE
    rw [hlb, hlb2, hlb3, cmpQ_zero]
    simp only [if_neg na, if_neg nb, decide_eq_false na, decide_eq_false nb, if_pos za]
    by_cases zb : b.f2 = 0
    ·simp only [if_pos (hz.2 zb)]
     rw [Bool.eq_iff_iff]
     simp [za, zb]
    ·have zb' : ¬ (qq b.f2 b.f3).num = 0 := fun h => zb (hz.1 h)
     simp only [if_neg zb']
     have e1 : ((0 : Int) == (qq b.f2 b.f3).num) = false := by simpa using fun h => zb' h.symm
     rw [Bool.eq_iff_iff]
     simp [za, zb, e1]
   ·by_cases zb : b.f2 = 0
    ·rw [ovR2 hne (Or.inr zb)]
     unfold ovV overB kinB kB kS kN kE
     rw [hlb, hlb2, hlb3, cmpQ_zero]
     simp only [if_neg na, if_neg nb, decide_eq_false na, decide_eq_false nb, if_neg za, if_pos (hz.2 zb)]
     rw [Bool.eq_iff_iff]
     simp [za, zb]
    ·have zb' : ¬ (qq b.f2 b.f3).num = 0 := fun h => zb (hz.1 h)
     rw [ovR3 hne (by omega)]
     unfold ovV overB kinB kB kS kN kE
     rw [hlb, hlb2, hlb3, cmpQ_zero]
     simp only [if_neg na, if_neg nb, decide_eq_false na, decide_eq_false nb, if_neg za, if_neg zb']
     rw [Bool.eq_iff_iff]
     have hza : (a.f2 == 0) = false := by simpa using za
     simp only [Bool.and_eq_true, beq_iff_eq, decide_eq_true_eq, hza, Bool.false_or, true_and, and_true]
     rw [after_iff c0 c2 a5]
     have hk : (a.f2 = (qq b.f2 b.f3).num ∧ a.f3 = ((qq b.f2 b.f3).den : Int)) ↔ a.f2 * b.f3 = b.f2 * a.f3 := by
      rw [← qq_eq (by omega) (by omega)]
      constructor
      ·rintro ⟨h1, h2⟩
       rw [h1, h2, qq_self]
      ·intro h
       rw [← h]
       exact ⟨hl.1.symm, hl.2.symm⟩
     simp [hk]
theorem isEmpty_f (x : Ed) : dioramaref10_isEmpty.f x.f0 x.f1 x.f2 x.f3 = some (decide (x.f1 = -1)) := by
 unfold dioramaref10_isEmpty.f
 congr 1
theorem rover_f {ms ts : Int} (hc : Ck ms ts) {a b : Ed} (ha : Wd a) (hd : a.f0 ≤ 1099511627776) (hb : Vd b) : Ev (fun k => dioramaref10_over.f k a.f0 a.f1 a.f2 a.f3 b.f0 b.f1 b.f2 b.f3 ms ts) (ovR ms ts a b) := by
 have c0 := hc.m0
 have c1 := hc.m1
 have c2 := hc.t0
 have c3 := hc.t1
 have a0 := ha.d0
 have a1 := ha.m0
 have a2 := ha.m1
 have a3 := ha.n0
 have a4 := ha.n1
 have a5 := ha.e0
 have a6 := ha.e1
 have b1 := hb.m0
 have b2 := hb.m1
 have b3 := hb.n0
 have b4 := hb.n1
 have b5 := hb.e0
 have b6 := hb.e1
 have hj0 : ∀ z : Bool, z = decide (a.f1 = -1 ∨ b.f1 = -1) → Ev (fun k => dioramaref10_over.j0 k ms ts z a.f0 a.f1 a.f2 a.f3 b.f0 b.f1 b.f2 b.f3) (ovR ms ts a b) := by
  intro z hz
  refine Ev.step (fun k => by rw [dioramaref10_over.j0]) ?_
  unfold ovR
  by_cases h : a.f1 = -1 ∨ b.f1 = -1
  ·rw [hz, decide_eq_true h, if_pos h]
   refine Ev.congr (fun k => if_pos rfl) ?_
   rw [isEmpty_f, isEmpty_f]
   by_cases h1 : a.f1 = -1
   ·refine Ev.congr (f := fun _ => some (decide (a.f1 = -1 ∧ b.f1 = -1))) (fun k => ?_) (Ev.now _)
    simp [h1]
   ·refine Ev.congr (f := fun _ => some (decide (a.f1 = -1 ∧ b.f1 = -1))) (fun k => ?_) (Ev.now _)
    simp [h1]
  ·rw [hz, decide_eq_false h, if_neg h]
   refine Ev.congr (fun k => if_neg (by decide)) ?_
   have hj1 : ∀ y : Bool, y = decide (a.f2 = 0 ∨ b.f2 = 0) → Ev (fun k => dioramaref10_over.j1 k ms ts y a.f0 a.f1 a.f2 a.f3 b.f0 b.f1 b.f2 b.f3) (if a.f2 = 0 ∨ b.f2 = 0 then decide (a.f2 = 0 ∧ b.f2 = 0 ∧ a.f1 = b.f1) else decide (a.f2 * b.f3 = b.f2 * a.f3 ∧ qq a.f1 ts + qq a.f0 ms * qq a.f2 a.f3 = qq b.f1 ts)) := by
    intro y hy
    refine Ev.step (fun k => by rw [dioramaref10_over.j1]) ?_
    by_cases h2 : a.f2 = 0 ∨ b.f2 = 0
    ·rw [hy, decide_eq_true h2, if_pos h2]
     refine Ev.congr (f := fun _ => some (decide (a.f2 = 0 ∧ b.f2 = 0 ∧ a.f1 = b.f1))) (fun k => ?_) (Ev.now _)
     by_cases z1 : a.f2 = 0
     ·by_cases z2 : b.f2 = 0
      ·rw [if_pos rfl, if_pos z1, if_pos z2]; simp [z1, z2]; rfl
      ·rw [if_pos rfl, if_pos z1, if_neg z2]; simp [z2]
     ·rw [if_pos rfl, if_neg z1]; simp [z1]
    ·rw [hy, decide_eq_false h2, if_neg h2]
     refine Ev.congr (fun k => if_neg (by decide)) ?_
     have p1 : 0 ≤ a.f2 * b.f3 := Int.mul_nonneg a3 (by omega)
     have p2 : a.f2 * b.f3 ≤ 1000 * 1000 := Int.mul_le_mul a4 b6 (by omega) (by omega)
     have p3 : 0 ≤ b.f2 * a.f3 := Int.mul_nonneg b3 (by omega)
     have p4 : b.f2 * a.f3 ≤ 1000 * 1000 := Int.mul_le_mul b4 a6 (by omega) (by omega)
     rw [w64 (by omega) (by omega), w64 (by omega) (by omega)]
     by_cases h3 : a.f2 * b.f3 = b.f2 * a.f3
     ·refine Ev.congr (fun k => if_pos h3) ?_
      obtain ⟨e1, x1, y1, v1, r1⟩ := ratio_f a.f0 ms (by omega) (by omega) (by omega) (by omega)
      obtain ⟨e2, x2, y2, v2, r2⟩ := media_f a.f0 a.f1 a.f2 a.f3 ts a3 (by omega) a5 (by omega) (by omega) (by omega) c2 c3 r1 (by omega)
      obtain ⟨e3, x3, y3, v3, r3⟩ := ratio_f b.f1 ts (by omega) (by omega) (by omega) (by omega)
      have e : decide (a.f2 * b.f3 = b.f2 * a.f3 ∧ qq a.f1 ts + qq a.f0 ms * qq a.f2 a.f3 = qq b.f1 ts) = decide (qq a.f1 ts + qq a.f0 ms * qq a.f2 a.f3 = qq b.f1 ts) := by simp [h3]
      rw [e]
      exact Ev.bind v1 (Ev.bind v2 (Ev.bind v3 (Ev.bind (equalR_f r2 r3 (by omega)) (Ev.now _))))
     ·rw [decide_eq_false (fun h => h3 h.1)]
      exact Ev.congr (fun k => if_neg h3) (Ev.now _)
   by_cases h1 : a.f2 = 0
   ·exact Ev.congr (fun k => if_pos h1) (hj1 true (by simp [h1]))
   ·refine Ev.congr (fun k => if_neg h1) (hj1 _ ?_)
    simp [h1]; rfl
 unfold dioramaref10_over.f
 rw [isEmpty_f, isEmpty_f]
 by_cases h1 : a.f1 = -1
 ·refine Ev.congr (fun k => ?_) (hj0 true (by simp [h1]))
  simp [h1]
 ·refine Ev.congr (fun k => ?_) (hj0 (decide (b.f1 = -1)) (by simp [h1]))
  simp [h1]
end Go.Proofs.Ytpbhepdgamoiaaa.Qn
namespace Go.Proofs.Ytpbhepdgamoiaaa.Qo
open Go.RowKit Go Go.Proofs.YtpbhepdgamoiaaaW.PrintWords Go.Proofs.YtpbhepdgamoiaaaW.PrintLast Go.Proofs.YtpbhepdgamoiaaaW.PrintMore Go.Proofs.Ytpbhepdgamoiaaa.Ml Go.Proofs.Ytpbhepdgamoiaaa.Mn Go.Proofs.Ytpbhepdgamoiaaa.Nd Go.Proofs.Ytpbhepdgamoiaaa.Pa Go.Proofs.Ytpbhepdgamoiaaa.Pb Go.Proofs.Ytpbhepdgamoiaaa.Rf Go.Proofs.Ytpbhepdgamoiaaa.Er Go.Proofs.Ytpbhepdgamoiaaa.Ek Go.Proofs.Ytpbhepdgamoiaaa.E Go.Proofs.Ytpbhepdgamoiaaa.Pe Go.Proofs.Ytpbhepdgamoiaaa.Pf Go.Proofs.Ytpbhepdgamoiaaa.Pg Go.Proofs.Ytpbhepdgamoiaaa.Qr Go.Proofs.Ytpbhepdgamoiaaa.Qn
set_option linter.unusedVariables false
set_option linter.unusedSimpArgs false
theorem rlow_f {x : Ed} (h : Vd x) : dioramaref10_lowest.f x.f0 x.f1 x.f2 x.f3 = some ((lowV x).f0, (lowV x).f1, (lowV x).f2, (lowV x).f3) := low_f h
theorem push_lw {ms ts : Int} {out : List Ed} {e : Ed} (h : ∀ x ∈ out, Lw x) (he : Lw e) : ∀ x ∈ push ms ts out e, Lw x := by
 cases out with
 | nil => simpa [push] using he
 | cons a t =>
  simp only [push]
  split
  ·intro x hx
   simp only [List.mem_cons] at hx
   rcases hx with rfl | hx
   ·exact h a (by simp)
   ·exact h x (by simp [hx])
  ·intro x hx
   simp only [List.mem_cons] at hx
   rcases hx with rfl | hx
   ·exact he
   ·exact h x (by simpa using hx)
theorem rnormal_l {ms ts : Int} (hc : Ck ms ts) (l : List Ed) (hV : ∀ x ∈ l, Vd x) (hl : l.length ≤ 1000000000) (hsum : sumD l ≤ 1099511627776) (rest : List Ed) :
  ∀ pre out, l = pre ++ rest → sumD out = sumD pre → (∀ x ∈ out, Wd x) → (∀ x ∈ out, Lw x) → out.length ≤ pre.length →
   Ev (fun k => dioramaref10_normal.l0 k l ms ts out.reverse (pre.length : Int)) (nrmR ms ts out rest).reverse := by
 induction rest with
 | nil =>
  intro pre out he hs hw hlw ho
  subst he
  refine Ev.step (f := fun _ => some out.reverse) (fun k => ?_) (Ev.now _)
  simp only [dioramaref10_normal.l0, List.append_nil]
  rw [if_neg (by omega)]
 | cons x t ih =>
  intro pre out he hs hw hlw ho
  have hlen : l.length = pre.length + (t.length + 1) := by rw [he]; simp
  have hx : rd_T77 l (pre.length : Int) = x := by rw [he]; exact rd_at pre x t
  have hvx : Vd x := hV x (by rw [he]; simp)
  have hst : 0 ≤ sumD t := sumD_nonneg (fun y hy => hV y (by rw [he]; simp [hy]))
  have hsl : sumD l = sumD pre + x.f0 + sumD t := by rw [he, sumD_app]; simp only [sumD]; omega
  have hs0 : 0 ≤ sumD pre := by rw [← hs]; exact wd_sum hw
  have hd0 := hvx.d0
  have hsp : sumD (pre ++ [x]) = sumD pre + x.f0 := by rw [sumD_app]; simp [sumD]
  have hwl := wd_low hvx
  have hr := ih (pre ++ [x]) (push ms ts out (lowV x)) (by rw [he]; simp) (by rw [push_sum, hs, hsp]; rfl) (push_wd hw hwl) (push_lw hlw (lw_low x)) (by have := push_len ms ts out (lowV x); simp only [List.length_append, List.length_cons, List.length_nil]; omega)
  have hn : nrmR ms ts out (x :: t) = nrmR ms ts (push ms ts out (lowV x)) t := rfl
  have hpl : wrap64 ((pre.length : Int) + 1) = ((pre ++ [x]).length : Int) := by rw [w64 (by omega) (by omega)]; simp
  rw [hn]
  have hstep : ∀ k, dioramaref10_normal.l0 (k + 1) l ms ts out.reverse (pre.length : Int) = (if (out.reverse.length : Int) > 0 then (if 0 ≤ (wrap64 ((out.reverse.length : Int) - 1)) then (if (wrap64 ((out.reverse.length : Int) - 1)) < (out.reverse.length : Int) then ((dioramaref10_over.f k ((rd_T77 out.reverse (wrap64 ((out.reverse.length : Int) - 1))).f0) ((rd_T77 out.reverse (wrap64 ((out.reverse.length : Int) - 1))).f1) ((rd_T77 out.reverse (wrap64 ((out.reverse.length : Int) - 1))).f2) ((rd_T77 out.reverse (wrap64 ((out.reverse.length : Int) - 1))).f3) x.f0 x.f1 x.f2 x.f3 ms ts).bind fun t => (if t = true then (dioramaref10_normal.l0 k l ms ts (out.reverse.set ((wrap64 ((out.reverse.length : Int) - 1)) : Int).toNat (⟨wrap64 (((rd_T77 out.reverse (wrap64 ((out.reverse.length : Int) - 1))).f0) + x.f0), (rd_T77 out.reverse (wrap64 ((out.reverse.length : Int) - 1))).f1, (rd_T77 out.reverse (wrap64 ((out.reverse.length : Int) - 1))).f2, (rd_T77 out.reverse (wrap64 ((out.reverse.length : Int) - 1))).f3⟩ : Ed)) ((pre ++ [x]).length : Int)) else (if out.reverse.length < 4398046511104 then (dioramaref10_normal.l0 k l ms ts (out.reverse ++ [lowV x]) ((pre ++ [x]).length : Int)) else (none)))) else (none)) else (none)) else (if out.reverse.length < 4398046511104 then (dioramaref10_normal.l0 k l ms ts (out.reverse ++ [lowV x]) ((pre ++ [x]).length : Int)) else (none))) := by
   intro k
   simp only [dioramaref10_normal.l0]
   rw [if_pos (by omega), hx, rlow_f hvx, hpl]
   simp only [Option.bind_some, show 0 ≤ (pre.length : Int) by omega, if_true]
  cases out with
  | nil =>
   refine Ev.step (f := fun k => dioramaref10_normal.l0 k l ms ts (push ms ts [] (lowV x)).reverse ((pre ++ [x]).length : Int)) (fun k => ?_) hr
   rw [hstep, if_neg (show ¬ (([] : List Ed).reverse.length : Int) > 0 by simp), if_pos (show ([] : List Ed).reverse.length < 4398046511104 by simp)]
   rfl
  | cons a o =>
   have hla : (a :: o).reverse.length = o.length + 1 := by simp
   have hra : rd_T77 (a :: o).reverse (o.length : Int) = a := by
    rw [List.reverse_cons]
    have := rd_at o.reverse a []
    rw [List.length_reverse] at this
    exact this
   have hol : o.length + 1 ≤ pre.length := ho
   have hsa := wd_sum (l := o) (fun y hy => hw y (by simp [hy]))
   have hda : a.f0 + x.f0 ≤ 1099511627776 := by simp only [sumD] at hs; omega
   have ha0 := (hw a (by simp)).d0
   have hov := rover_f hc (hw a (by simp)) (by omega) hvx
   rw [← ov_eq hc (hw a (by simp)) (hlw a (by simp)) hvx] at hov
   refine Ev.step (f := fun k => (dioramaref10_over.f k a.f0 a.f1 a.f2 a.f3 x.f0 x.f1 x.f2 x.f3 ms ts).bind fun t => (if t = true then (dioramaref10_normal.l0 k l ms ts ((⟨a.f0 + x.f0, a.f1, a.f2, a.f3⟩ : Ed) :: o).reverse ((pre ++ [x]).length : Int)) else (dioramaref10_normal.l0 k l ms ts (lowV x :: a :: o).reverse ((pre ++ [x]).length : Int)))) (fun k => ?_) (Ev.bind hov ?_)
   ·rw [hstep, hla, if_pos (by omega), w64 (by omega) (by omega), show ((o.length + 1 : Nat) : Int) - 1 = (o.length : Int) by omega, if_pos (by omega), if_pos (by omega), hra, w64 (by omega) (by omega), if_pos (show o.length + 1 < 4398046511104 by omega)]
    have e1 : (a :: o).reverse.set (o.length : Int).toNat (⟨a.f0 + x.f0, a.f1, a.f2, a.f3⟩ : Ed) = ((⟨a.f0 + x.f0, a.f1, a.f2, a.f3⟩ : Ed) :: o).reverse := by
     rw [List.reverse_cons, List.reverse_cons, Int.toNat_natCast]
     have : o.length = o.reverse.length := by simp
     rw [this, List.set_append_right _ _ (Nat.le_refl _)]
     simp
    rw [e1, List.reverse_cons (a := lowV x)]
   ·have hp : push ms ts (a :: o) (lowV x) = if ovV ms ts a (lowV x) = true then (⟨a.f0 + (lowV x).f0, a.f1, a.f2, a.f3⟩ : Ed) :: o else lowV x :: a :: o := rfl
    rw [hp] at hr
    rw [hp]
    by_cases hb : ovV ms ts a (lowV x) = true
    ·rw [if_pos hb] at hr ⊢
     exact Ev.congr (fun k => if_pos hb) hr
    ·rw [if_neg hb] at hr ⊢
     exact Ev.congr (fun k => if_neg hb) hr
theorem rnormal_f {ms ts : Int} (hc : Ck ms ts) (l : List Ed) (hV : ∀ x ∈ l, Vd x) (hl : l.length ≤ 1000000000) (hsum : sumD l ≤ 1099511627776) : Ev (fun k => dioramaref10_normal.f k l ms ts) (nrm ms ts l) :=
 rnormal_l hc l hV hl hsum l [] [] rfl rfl (by simp) (by simp) (by simp)
theorem RV.int {b : Bool} {x y : List Int} {z : Int} {n : Nat} (h : RV b x y (qq z 1) n) (hy : dv 1000000000 y = 1) : sg b (dv 1000000000 x) = z := by
 have e := h.eq
 rw [hy, qq_eq (by decide) (by decide)] at e
 omega
structure RZ (b : Bool) (x y : List Int) (z : Int) (n : Nat) : Prop where
 nx : Nn x
 ny : Nn y
 y1 : dv 1000000000 y = 1
 eq : sg b (dv 1000000000 x) = z
 lx : x.length ≤ n
 ly : y.length ≤ n
def ZE (f : Nat → Option (Bool × List Int × List Int)) (z : Int) (n : Nat) : Prop := ∃ b x y, Ev f (b, x, y) ∧ RZ b x y z n
theorem ratioZ_f (n : Int) (hn : -9223372036854775807 ≤ n) (hn1 : n ≤ 9223372036854775807) : ZE (fun k => dioramaref10_ratio.f k n 1) n 3 := by
 obtain ⟨y, ey, ny, vy, ly⟩ := of_f 1 (by omega) (by omega)
 by_cases h : n < 0
 ·obtain ⟨x, ex, nx, vx, lx⟩ := of_f (-n) (by omega) (by omega)
  refine ⟨true, x, y, ?_, ⟨nx, ny, vy, by rw [vx]; simp [sg], lx, ly⟩⟩
  refine Ev.congr (fun k => if_pos h) ?_
  rw [w64 (by omega) (by omega)]
  exact Ev.bind ex (Ev.bind ey (Ev.now _))
 ·obtain ⟨x, ex, nx, vx, lx⟩ := of_f n (by omega) hn1
  refine ⟨false, x, y, ?_, ⟨nx, ny, vy, by rw [vx]; simp [sg], lx, ly⟩⟩
  refine Ev.congr (fun k => if_neg h) ?_
  exact Ev.bind ex (Ev.bind ey (Ev.now _))
theorem plusZ_f {b1 b2 : Bool} {x1 y1 x2 y2 : List Int} {p q : Int} {n m : Nat} (h1 : RZ b1 x1 y1 p n) (h2 : RZ b2 x2 y2 q m) (hl : n + m + 2 ≤ 1000000) : ZE (fun k => dioramaref10_plus.f k b1 x1 y1 b2 x2 y2) (p + q) (n + m + 1) := by
 have l1 := h1.lx
 have l2 := h1.ly
 have l3 := h2.lx
 have l4 := h2.ly
 obtain ⟨u, eu, nu, vu, lu⟩ := times_f x1 y2 h1.nx h2.ny (by omega)
 obtain ⟨v, ev, nv, vv, lv⟩ := times_f x2 y1 h2.nx h1.ny (by omega)
 obtain ⟨y, ey, ny, vy, ly⟩ := times_f y1 y2 h1.ny h2.ny (by omega)
 rw [h2.y1, Int.mul_one] at vu
 rw [h1.y1, Int.mul_one] at vv
 rw [h1.y1, h2.y1] at vy
 have e1 := h1.eq
 have e2 := h2.eq
 rw [← vu] at e1
 rw [← vv] at e2
 by_cases hb : b1 = b2
 ·subst hb
  obtain ⟨s, es, ns, vs, ls⟩ := plus_f u v nu nv (by omega) (by omega)
  refine ⟨b1, s, y, ?_, ⟨ns, ny, vy, ?_, by omega, by omega⟩⟩
  ·refine Ev.congr (fun k => rfl) (Ev.bind (a := (b1, s, y)) (Ev.congr (fun k => rfl) (Ev.bind eu (Ev.bind ev (Ev.bind ey ?_)))) (Ev.now _))
   exact Ev.congr (fun k => if_pos (by simp)) (Ev.bind es (Ev.now _))
  ·rw [vs]
   cases b1 <;> simp [sg] at e1 e2 ⊢ <;> omega
 ·have hcp := compare_f u v nu nv (by omega) (by omega)
  have hne : ¬ (b1 == b2) = true := by simpa using hb
  by_cases hle : dv 1000000000 v ≤ dv 1000000000 u
  ·obtain ⟨s, es, ns, vs, ls⟩ := minus_f u v nu nv (by omega) hle
   refine ⟨b1, s, y, ?_, ⟨ns, ny, vy, ?_, by omega, by omega⟩⟩
   ·refine Ev.congr (fun k => rfl) (Ev.bind (a := (b1, s, y)) (Ev.congr (fun k => rfl) (Ev.bind eu (Ev.bind ev (Ev.bind ey ?_)))) (Ev.now _))
    refine Ev.congr (fun k => if_neg hne) (Ev.bind hcp ?_)
    refine Ev.congr (fun k => if_pos ?_) (Ev.bind es (Ev.now _))
    unfold cmpI
    rw [if_neg (by omega)]
    split <;> decide
   ·rw [vs]
    cases b1 <;> cases b2 <;> simp [sg] at hb e1 e2 ⊢ <;> omega
  ·obtain ⟨s, es, ns, vs, ls⟩ := minus_f v u nv nu (by omega) (by omega)
   refine ⟨b2, s, y, ?_, ⟨ns, ny, vy, ?_, by omega, by omega⟩⟩
   ·refine Ev.congr (fun k => rfl) (Ev.bind (a := (b2, s, y)) (Ev.congr (fun k => rfl) (Ev.bind eu (Ev.bind ev (Ev.bind ey ?_)))) (Ev.now _))
    refine Ev.congr (fun k => if_neg hne) (Ev.bind hcp ?_)
    refine Ev.congr (fun k => if_neg ?_) (Ev.bind es (Ev.now _))
    unfold cmpI
    rw [if_pos (by omega)]
    decide
   ·rw [vs]
    cases b1 <;> cases b2 <;> simp [sg] at hb e1 e2 ⊢ <;> omega
theorem told_l {ms ts : Int} (hc : Ck ms ts) (l : List Ed) (hV : ∀ x ∈ l, Vd x) (hl : l.length ≤ 10000) (rest : List Ed) :
  ∀ pre b x y, l = pre ++ rest → RZ b x y (sumD pre) (3 + 4 * pre.length) → Ev (fun k => dioramaref10_told.l0 k l ms ts (pre.length : Int) b x y) (nrmV ms ts l) := by
 induction rest with
 | nil =>
  intro pre b x y he hz
  simp only [List.append_nil] at he
  subst he
  have h0 : 0 ≤ sumD l := sumD_nonneg hV
  have hx0 : 0 ≤ dv 1000000000 x := dv_nonneg (by decide) hz.nx.dg
  have hxe : dv 1000000000 x = sumD l := by
   have := hz.eq
   cases b <;> simp [sg] at this <;> omega
  have hsm := small_f x 1099511627776 hz.nx (by have := hz.lx; omega) (by decide) (by decide)
  rw [hxe] at hsm
  refine Ev.step (fun k => by rw [dioramaref10_told.l0]) ?_
  refine Ev.congr (fun k => if_neg (by omega)) (Ev.bind hsm ?_)
  unfold nrmV
  by_cases hb : 1099511627776 < sumD l
  ·rw [if_pos hb, if_pos hb]
   exact Ev.congr (fun k => if_neg (by simp)) (Ev.now _)
  ·rw [if_neg hb, if_neg hb]
   refine Ev.congr (fun k => if_pos rfl) (Ev.bind (rnormal_f hc l hV (by omega) (by omega)) ?_)
   unfold fin nrm
   by_cases h20 : 20 < (nrmR ms ts [] l).length
   ·rw [if_pos h20]
    exact Ev.congr (fun k => if_pos (by rw [List.length_reverse]; omega)) (Ev.now _)
   ·rw [if_neg h20]
    exact Ev.congr (fun k => if_neg (by rw [List.length_reverse]; omega)) (Ev.now _)
 | cons e t ih =>
  intro pre b x y he hz
  have hlen : l.length = pre.length + (t.length + 1) := by rw [he]; simp
  have hx : rd_T77 l (pre.length : Int) = e := by rw [he]; exact rd_at pre e t
  have hv : Vd e := hV e (by rw [he]; simp)
  have hd0 := hv.d0
  have hd1 := hv.d1
  obtain ⟨b2, x2, y2, e2, z2⟩ := ratioZ_f e.f0 (by omega) (by omega)
  obtain ⟨b3, x3, y3, e3, z3⟩ := plusZ_f hz z2 (by omega)
  have hsp : sumD (pre ++ [e]) = sumD pre + e.f0 := by rw [sumD_app]; simp [sumD]
  have hr := ih (pre ++ [e]) b3 x3 y3 (by rw [he]; simp) (by
   rw [hsp]
   refine ⟨z3.nx, z3.ny, z3.y1, z3.eq, ?_, ?_⟩
   ·have := z3.lx; simp only [List.length_append, List.length_cons, List.length_nil]; omega
   ·have := z3.ly; simp only [List.length_append, List.length_cons, List.length_nil]; omega)
  refine Ev.step (fun k => by rw [dioramaref10_told.l0]) ?_
  refine Ev.congr (fun k => if_pos (by omega)) (Ev.congr (fun k => if_pos (by omega)) ?_)
  rw [hx]
  refine Ev.bind e2 (Ev.bind e3 ?_)
  have hpl : wrap64 ((pre.length : Int) + 1) = ((pre ++ [e]).length : Int) := by rw [w64 (by omega) (by omega)]; simp
  rw [hpl]
  exact hr
theorem told_f {ms ts : Int} (hc : Ck ms ts) (l : List Ed) (hV : ∀ x ∈ l, Vd x) (hl : l.length ≤ 10000) : Ev (fun k => dioramaref10_told.f k l ms ts) (nrmV ms ts l) := by
 obtain ⟨b, x, y, e, z⟩ := ratioZ_f 0 (by decide) (by decide)
 exact Ev.congr (fun k => rfl) (Ev.bind e (told_l hc l hV hl l [] b x y rfl z))
end Go.Proofs.Ytpbhepdgamoiaaa.Qo
namespace Go.Proofs.Ytpbhepdgamoiaaa.Qw
open Go.RowKit Go Go.Proofs.YtpbhepdgamoiaaaW.PrintWords Go.Proofs.YtpbhepdgamoiaaaW.PrintLast Go.Proofs.YtpbhepdgamoiaaaW.PrintMore Go.Proofs.Ytpbhepdgamoiaaa.Ml Go.Proofs.Ytpbhepdgamoiaaa.Mn Go.Proofs.Ytpbhepdgamoiaaa.Nd Go.Proofs.Ytpbhepdgamoiaaa.Pa Go.Proofs.Ytpbhepdgamoiaaa.Pb Go.Proofs.Ytpbhepdgamoiaaa.Pc Go.Proofs.Ytpbhepdgamoiaaa.Rf Go.Proofs.Ytpbhepdgamoiaaa.Er Go.Proofs.Ytpbhepdgamoiaaa.Ek Go.Proofs.Ytpbhepdgamoiaaa.E Go.Proofs.Ytpbhepdgamoiaaa.Pe Go.Proofs.Ytpbhepdgamoiaaa.Pf Go.Proofs.Ytpbhepdgamoiaaa.Qr Go.Proofs.Ytpbhepdgamoiaaa.Qn Go.Proofs.Ytpbhepdgamoiaaa.Ew
set_option linter.unusedVariables false
set_option linter.unusedSimpArgs false
theorem qq_one (z : Int) : qq z 1 = (z : Rat) := by
 rw [qq_div, show ((1 : Int) : Rat) = 1 from rfl]
 grind
theorem whV_qq {a b : Int} (hb : 0 < b) : whV (qq a b) = if a % b = 0 then (if 1099511627776 < a / b then (0, 2) else (a / b, 0)) else (0, 20) := by
 by_cases h : a % b = 0
 ·have e : qq a b = ((a / b : Int) : Rat) := by
   rw [← qq_one, qq_eq (by omega) (by decide)]
   have := Int.mul_ediv_add_emod a b
   rw [h, Int.add_zero] at this
   rw [Int.mul_one, Int.mul_comm]
   exact this.symm
  rw [if_pos h, e]
  unfold whV
  rw [if_pos (Rat.den_intCast _), Rat.num_intCast]
 ·rw [if_neg h]
  unfold whV
  refine if_neg fun hd => h ?_
  obtain ⟨g, hg, e1, e2⟩ := qq_parts (a := a) hb
  rw [hd] at e2
  have : b = g := by rw [e2]; simp
  rw [e1, this]
  exact Int.mul_emod_left _ _
theorem whole_f {b : Bool} {x y : List Int} {q : Rat} {n : Nat} (h : RV b x y q n) (hn : n ≤ 1000) (hq : ¬ q < 0) : Ev (fun k => dioramaref10_whole.f k b x y) (whV q) := by
 have lx := h.lx
 have ly := h.ly
 have hz : q = qq (dv 1000000000 x) (dv 1000000000 y) := by
  have hs := h.sign
  have he := h.eq
  rw [decide_eq_false hq] at hs
  cases b with
  | false => exact he
  | true =>
   have h0 : x.length = 0 := by
    rw [Bool.true_and, decide_eq_false_iff_not] at hs
    omega
   have h1 : x = [] := by cases x with | nil => rfl | cons a t => simp at h0
   rw [he, h1]
   simp [sg, dv]
 obtain ⟨r1, r2, he, n1, n2, e1, e2, l1, l2⟩ := over_f x y h.nx h.ny (by omega) (by omega) h.pos
 have h2 : 0 ≤ dv 1000000000 r2 := dv_nonneg (by decide) n2.dg
 have hu := (Int.ediv_emod_unique (a := dv 1000000000 x) (b := dv 1000000000 y) (q := dv 1000000000 r1) (r := dv 1000000000 r2) h.pos).2 ⟨by rw [e1, Int.add_comm, Int.mul_comm], h2, e2⟩
 rw [hz, whV_qq h.pos, hu.1, hu.2]
 have hr : dv 1000000000 r2 = 0 ↔ r2 = [] := dv_eq_zero (by decide) n2
 refine Ev.congr (fun k => rfl) (Ev.bind he ?_)
 by_cases h0 : dv 1000000000 r2 = 0
 ·rw [if_pos h0]
  have hl : ¬ ((r2.length : Int) > 0) := by rw [hr.1 h0]; simp
  have hs := small_f r1 1099511627776 n1 (by omega) (by decide) (by decide)
  refine Ev.congr (fun k => if_neg hl) (Ev.bind hs ?_)
  by_cases hb : 1099511627776 < dv 1000000000 r1
  ·rw [if_pos hb, if_pos hb]
   exact Ev.congr (fun k => if_neg (by simp)) (Ev.now _)
  ·rw [if_neg hb, if_neg hb]
   exact Ev.congr (fun k => if_pos rfl) (Ev.now _)
 ·rw [if_neg h0]
  have hl : (r2.length : Int) > 0 := by
   cases r2 with
   | nil => exact absurd (hr.2 rfl) h0
   | cons a t => simp
  exact Ev.congr (fun k => if_pos hl) (Ev.now _)
theorem qq_nonneg {a b : Int} (ha : 0 ≤ a) (hb : 0 < b) : ¬ qq a b < 0 := by
 have e : (0 : Rat) = qq 0 1 := by unfold qq; simp
 rw [e, qq_lt hb (by decide)]
 omega
end Go.Proofs.Ytpbhepdgamoiaaa.Qw
namespace Go.Proofs.Ytpbhepdgamoiaaa.Nm
open Go.RowKit Go Go.Proofs.Ytpbhepdgamoiaaa.Rf Go.Proofs.Ytpbhepdgamoiaaa.Er Go.Proofs.Ytpbhepdgamoiaaa.Ek Go.Proofs.Ytpbhepdgamoiaaa.Et Go.Proofs.Ytpbhepdgamoiaaa.E Go.Proofs.Ytpbhepdgamoiaaa.Pe Go.Proofs.Ytpbhepdgamoiaaa.Pf Go.Proofs.Ytpbhepdgamoiaaa.Qr Go.Proofs.Ytpbhepdgamoiaaa.Qn Go.Proofs.Ytpbhepdgamoiaaa.Qw
set_option linter.unusedVariables false
set_option linter.unusedSimpArgs false
theorem qq_zero (e : Int) : qq 0 e = 0 := by
 unfold qq
 simp
theorem qq_split {m t : Int} (ht : t ≠ 0) : qq m 1 = qq m t * qq t 1 := by
 unfold qq
 rw [Rat.divInt_mul_divInt, Int.mul_comm m t, Int.mul_one]
 conv => rhs; rw [show t = t * 1 by omega, Int.mul_assoc, Int.one_mul]
 rw [Rat.divInt_mul_left ht]
abbrev noV : (Int × Int) × Bool × Int := ((0, 1), false, 0)
end Go.Proofs.Ytpbhepdgamoiaaa.Nm
namespace Go.Proofs.Ytpbhepdgamoiaaa.Qp
open Go.RowKit Go Go.Proofs.YtpbhepdgamoiaaaW.PrintWords Go.Proofs.YtpbhepdgamoiaaaW.PrintLast Go.Proofs.YtpbhepdgamoiaaaW.PrintMore Go.Proofs.Ytpbhepdgamoiaaa.Ml Go.Proofs.Ytpbhepdgamoiaaa.Mn Go.Proofs.Ytpbhepdgamoiaaa.Nd Go.Proofs.Ytpbhepdgamoiaaa.Pa Go.Proofs.Ytpbhepdgamoiaaa.Pb Go.Proofs.Ytpbhepdgamoiaaa.Rf Go.Proofs.Ytpbhepdgamoiaaa.Er Go.Proofs.Ytpbhepdgamoiaaa.Ek Go.Proofs.Ytpbhepdgamoiaaa.E Go.Proofs.Ytpbhepdgamoiaaa.Pe Go.Proofs.Ytpbhepdgamoiaaa.Pf Go.Proofs.Ytpbhepdgamoiaaa.Pg Go.Proofs.Ytpbhepdgamoiaaa.Qr Go.Proofs.Ytpbhepdgamoiaaa.Qn Go.Proofs.Ytpbhepdgamoiaaa.Qo
set_option linter.unusedVariables false
set_option linter.unusedSimpArgs false
theorem bad_f (x : Ed) : dioramaref10_badEdit.f x.f0 x.f1 x.f2 x.f3 = some (!decide (Vd x)) := by
 unfold dioramaref10_badEdit.f
 rw [isEmpty_f]
 by_cases h1 : x.f0 < 1
 ·rw [if_pos h1, decide_eq_false (fun h => by have := h.d0; omega)]; rfl
 rw [if_neg h1]
 by_cases h2 : x.f0 > 1099511627776
 ·rw [if_pos h2, decide_eq_false (fun h => by have := h.d1; omega)]; rfl
 rw [if_neg h2]
 by_cases h3 : x.f1 < -1
 ·rw [if_pos h3, decide_eq_false (fun h => by have := h.m0; omega)]; rfl
 rw [if_neg h3]
 by_cases h4 : x.f1 > 1099511627776
 ·rw [if_pos h4, decide_eq_false (fun h => by have := h.m1; omega)]; rfl
 rw [if_neg h4]
 by_cases h5 : x.f2 < 0
 ·rw [if_pos h5, decide_eq_false (fun h => by have := h.n0; omega)]; rfl
 rw [if_neg h5]
 by_cases h6 : x.f2 > 1000
 ·rw [if_pos h6, decide_eq_false (fun h => by have := h.n1; omega)]; rfl
 rw [if_neg h6]
 by_cases h7 : x.f3 < 1
 ·rw [if_pos h7, decide_eq_false (fun h => by have := h.e0; omega)]; rfl
 rw [if_neg h7]
 by_cases h8 : x.f3 > 1000
 ·rw [if_pos h8, decide_eq_false (fun h => by have := h.e1; omega)]; rfl
 rw [if_neg h8]
 simp only [Option.bind_some]
 by_cases h9 : x.f1 = -1
 ·rw [if_pos (decide_eq_true h9)]
  by_cases h10 : x.f2 = 1
  ·rw [if_pos h10]
   by_cases h11 : x.f3 = 1
   ·rw [decide_eq_true (show Vd x from ⟨by omega, by omega, by omega, by omega, by omega, by omega, by omega, by omega, fun _ => ⟨h10, h11⟩⟩), h11]
    rfl
   ·rw [decide_eq_false (fun h => h11 (h.em (by omega)).2)]
    simp [h11]
  ·rw [if_neg h10, decide_eq_false (fun h => h10 (h.em (by omega)).1)]
   rfl
 ·rw [if_neg (by simpa using h9), decide_eq_true (show Vd x from ⟨by omega, by omega, by omega, by omega, by omega, by omega, by omega, by omega, fun h => by omega⟩)]
  rfl
theorem rcheck_l (l : List Ed) (hl : l.length ≤ 20) (rest : List Ed) : ∀ pre, l = pre ++ rest → (∀ x ∈ pre, Vd x) → Ev (fun k => dioramaref10_Check.l0 k l (sumD pre) (pre.length : Int)) (if (∀ x ∈ rest, Vd x) ∧ sumD l ≤ 1099511627776 then 0 else 33) := by
 induction rest with
 | nil =>
  intro pre he hp
  subst he
  refine Ev.step (f := fun _ => some (if (∀ x ∈ ([] : List Ed), Vd x) ∧ sumD (pre ++ []) ≤ 1099511627776 then 0 else 33)) (fun k => ?_) (Ev.now _)
  simp only [dioramaref10_Check.l0, List.append_nil]
  rw [if_neg (by omega)]
  by_cases h : sumD pre > 1099511627776
  ·rw [if_pos h, if_neg (by intro hh; omega)]
  ·rw [if_neg h, if_pos ⟨by simp, by omega⟩]
 | cons x t ih =>
  intro pre he hp
  have hlen : l.length = pre.length + (t.length + 1) := by rw [he]; simp
  have hx : rd_T77 l (pre.length : Int) = x := by rw [he]; exact rd_at pre x t
  by_cases hV : Vd x
  ·have hs : sumD (pre ++ [x]) = sumD pre + x.f0 := by rw [sumD_app]; simp [sumD]
   have hb := sumD_le hp
   have h0 := sumD_nonneg hp
   have hr := ih (pre ++ [x]) (by rw [he]; simp) (by intro y hy; simp only [List.mem_append, List.mem_singleton] at hy; rcases hy with hy | rfl; exact hp y hy; exact hV)
   have e : ((∀ y ∈ x :: t, Vd y) ∧ sumD l ≤ 1099511627776) = ((∀ y ∈ t, Vd y) ∧ sumD l ≤ 1099511627776) := by
    apply propext
    constructor
    ·rintro ⟨h1, h2⟩; exact ⟨fun y hy => h1 y (by simp [hy]), h2⟩
    ·rintro ⟨h1, h2⟩; exact ⟨fun y hy => by simp only [List.mem_cons] at hy; rcases hy with rfl | hy; exact hV; exact h1 y hy, h2⟩
   simp only [e]
   refine Ev.step (fun k => ?_) hr
   simp only [dioramaref10_Check.l0]
   rw [if_pos (by omega), if_pos (by omega), hx, bad_f, decide_eq_true hV]
   simp only [Option.bind_some, Bool.not_true, if_neg (show ¬ (false = true) by decide)]
   rw [w64 (by have := hV.d0; omega) (by have := hV.d1; omega), w64 (by omega) (by omega), hs]
   simp
  ·refine Ev.step (f := fun _ => some 33) (fun k => ?_) ?_
   ·simp only [dioramaref10_Check.l0]
    rw [if_pos (by omega), if_pos (by omega), hx, bad_f, decide_eq_false hV]
    simp
   ·rw [if_neg (fun h => hV (h.1 x (by simp)))]
    exact Ev.now _
theorem rscale_f (n : Int) : dioramaref10_isScale.f n = some (decide (1 ≤ n ∧ n ≤ 1000000)) := by
 unfold dioramaref10_isScale.f
 by_cases h : n ≥ 1
 ·rw [if_pos h]; simp; omega
 ·rw [if_neg h]; simp; omega
theorem rcheck_f (l : List Ed) (ms ts : Int) : Ev (fun k => dioramaref10_Check.f k l ms ts) (chk l ms ts) := by
 have h0 : ∀ b, Ev (fun k => dioramaref10_Check.j0 k l b) (if b = true then 1 else if 20 < l.length then 2 else if (∀ x ∈ l, Vd x) ∧ sumD l ≤ 1099511627776 then 0 else 33) := by
  intro b
  by_cases hb : b = true
  ·rw [if_pos hb]
   refine Ev.step (f := fun _ => some 1) (fun k => ?_) (Ev.now _)
   simp only [dioramaref10_Check.j0]
   rw [if_pos hb]
  ·rw [if_neg hb]
   by_cases hl : 20 < l.length
   ·rw [if_pos hl]
    refine Ev.step (f := fun _ => some 2) (fun k => ?_) (Ev.now _)
    simp only [dioramaref10_Check.j0]
    rw [if_neg hb, if_pos (by omega)]
   ·rw [if_neg hl]
    refine Ev.step (fun k => ?_) (rcheck_l l (by omega) l [] rfl (by simp))
    simp only [dioramaref10_Check.j0]
    rw [if_neg hb, if_neg (by omega)]
    rfl
 unfold chk
 by_cases h1 : 1 ≤ ms ∧ ms ≤ 1000000
 ·by_cases h2 : 1 ≤ ts ∧ ts ≤ 1000000
  ·rw [if_neg (not_not_intro ⟨h1.1, h1.2, h2.1, h2.2⟩)]
   refine Ev.congr (fun k => ?_) (h0 false)
   unfold dioramaref10_Check.f
   rw [rscale_f, rscale_f, decide_eq_true h1, decide_eq_true h2]
   rfl
  ·rw [if_pos (fun h => h2 ⟨h.t0, h.t1⟩)]
   refine Ev.congr (fun k => ?_) (h0 true)
   unfold dioramaref10_Check.f
   rw [rscale_f, rscale_f, decide_eq_true h1, decide_eq_false h2]
   rfl
 ·rw [if_pos (fun h => h1 ⟨h.m0, h.m1⟩)]
  refine Ev.congr (fun k => ?_) (h0 true)
  unfold dioramaref10_Check.f
  rw [rscale_f, decide_eq_false h1]
  rfl
end Go.Proofs.Ytpbhepdgamoiaaa.Qp
namespace Go.Proofs.Ytpbhepdgamoiaaa.Qe
open Go.RowKit Go Go.Proofs.YtpbhepdgamoiaaaW.PrintWords Go.Proofs.YtpbhepdgamoiaaaW.PrintLast Go.Proofs.YtpbhepdgamoiaaaW.PrintMore Go.Proofs.Ytpbhepdgamoiaaa.Mn Go.Proofs.Ytpbhepdgamoiaaa.Er Go.Proofs.Ytpbhepdgamoiaaa.Ek Go.Proofs.Ytpbhepdgamoiaaa.E Go.Proofs.Ytpbhepdgamoiaaa.Pe Go.Proofs.Ytpbhepdgamoiaaa.Pf Go.Proofs.Ytpbhepdgamoiaaa.Pg
set_option linter.unusedVariables false
set_option linter.unusedSimpArgs false
theorem eqEdits_l (a b : List Ed) (hl : a.length ≤ 1000000) (ra : List Ed) : ∀ (pre rb : List Ed), a = pre ++ ra → b = pre ++ rb → ra.length = rb.length → Ev (fun k => dioramaref00_EqEdits.l0 k a b (pre.length : Int)) (decide (ra = rb)) := by
 induction ra with
 | nil =>
  intro pre rb ha hb hr
  have : rb = [] := by cases rb with | nil => rfl | cons _ _ => simp at hr
  subst this
  refine Ev.step (f := fun _ => some (decide (([] : List Ed) = []))) (fun k => ?_) (Ev.now _)
  simp only [dioramaref00_EqEdits.l0]
  rw [if_neg (by rw [ha]; simp)]
  simp
 | cons x t ih =>
  intro pre rb ha hb hr
  cases rb with
  | nil => simp at hr
  | cons y u =>
   have hx : rd_T77 a (pre.length : Int) = x := by rw [ha]; exact rd_at pre x t
   have hy : rd_T77 b (pre.length : Int) = y := by rw [hb]; exact rd_at pre y u
   have hla : a.length = pre.length + (t.length + 1) := by rw [ha]; simp
   have hlb : b.length = pre.length + (u.length + 1) := by rw [hb]; simp
   simp only [List.length_cons, Nat.add_right_cancel_iff] at hr
   by_cases hxy : x = y
   ·subst hxy
    have hi := ih (pre ++ [x]) u (by rw [ha]; simp) (by rw [hb]; simp) hr
    have e : decide (x :: t = x :: u) = decide (t = u) := by simp
    rw [e]
    refine Ev.step (fun k => ?_) hi
    simp only [dioramaref00_EqEdits.l0]
    rw [if_pos (by omega), if_pos (by omega), if_pos (by omega), hx, hy, ed_ne, if_neg (by simp), w64 (by omega) (by omega)]
    simp
   ·rw [decide_eq_false (by intro h; injection h with h _; exact hxy h)]
    refine Ev.step (f := fun _ => some false) (fun k => ?_) (Ev.now _)
    simp only [dioramaref00_EqEdits.l0]
    rw [if_pos (by omega), if_pos (by omega), if_pos (by omega), hx, hy, ed_ne, if_pos (by simpa using hxy)]
theorem eqEdits_f (a b : List Ed) (hl : a.length ≤ 1000000) : Ev (fun k => dioramaref00_EqEdits.f k a b) (decide (a = b)) := by
 by_cases h : a.length = b.length
 ·refine Ev.congr (fun k => ?_) (eqEdits_l a b hl a [] b rfl rfl h)
  unfold dioramaref00_EqEdits.f
  rw [if_pos (by omega)]; rfl
 ·rw [decide_eq_false (fun e => h (by rw [e]))]
  refine Ev.congr (fun k => ?_) (Ev.now _)
  unfold dioramaref00_EqEdits.f
  rw [if_neg (by omega)]
theorem eq_f (a : List Ed) (e : Int) (hl : a.length ≤ 1000000) : Ev (fun k => dioramalaw10_eq.f k a e a e) true := by
 have h := eqEdits_f a a hl
 rw [decide_eq_true rfl] at h
 refine Ev.congr (fun k => rfl) (Ev.bind h ?_)
 refine Ev.congr (fun k => if_pos rfl) ?_
 rw [show (e == e) = true by simp]
 exact Ev.now _
end Go.Proofs.Ytpbhepdgamoiaaa.Qe
namespace Go.Proofs.Ytpbhepdgamoiaaa.Fr
open Go.RowKit Go Go.Proofs.YtpbhepdgamoiaaaW.PrintWords Go.Proofs.YtpbhepdgamoiaaaW.PrintLast Go.Proofs.YtpbhepdgamoiaaaW.PrintMore Go.Proofs.Ytpbhepdgamoiaaa.Mn Go.Proofs.Ytpbhepdgamoiaaa.Rf Go.Proofs.Ytpbhepdgamoiaaa.Er Go.Proofs.Ytpbhepdgamoiaaa.Ek Go.Proofs.Ytpbhepdgamoiaaa.E Go.Proofs.Ytpbhepdgamoiaaa.Pe Go.Proofs.Ytpbhepdgamoiaaa.Pf Go.Proofs.Ytpbhepdgamoiaaa.Pg Go.Proofs.Ytpbhepdgamoiaaa.Qr Go.Proofs.Ytpbhepdgamoiaaa.Qn Go.Proofs.Ytpbhepdgamoiaaa.Qo Go.Proofs.Ytpbhepdgamoiaaa.Qp Go.Proofs.Ytpbhepdgamoiaaa.Qe Go.Proofs.Ytpbhepdgamoiaaa.Qw Go.Proofs.Ytpbhepdgamoiaaa.Oe
set_option linter.unusedVariables false
set_option linter.unusedSimpArgs false
structure Rt (num den : Int) : Prop where
 n0 : 1 ≤ num
 n1 : num ≤ 1000
 d0 : 1 ≤ den
 d1 : den ≤ 1000
theorem len_step (pre : List Ed) (x : Ed) (h : pre.length ≤ 1000000) : wrap64 ((pre.length : Int) + 1) = ((pre ++ [x]).length : Int) := by rw [w64 (by omega) (by omega)]; simp
theorem nrmV_len (ms ts : Int) (l : List Ed) : (nrmV ms ts l).1.length ≤ 20 := by
 unfold nrmV fin
 split
 ·simp
 ·split
  ·simp
  ·simp only [List.length_reverse]; omega
end Go.Proofs.Ytpbhepdgamoiaaa.Fr
namespace Go.Proofs.Ytpbhepdgamoiaaa.Cl
open Go.RowKit Go Go.Proofs.YtpbhepdgamoiaaaW.PrintWords Go.Proofs.YtpbhepdgamoiaaaW.PrintLast Go.Proofs.YtpbhepdgamoiaaaW.PrintMore Go.Proofs.Ytpbhepdgamoiaaa.Mn Go.Proofs.Ytpbhepdgamoiaaa.Rf Go.Proofs.Ytpbhepdgamoiaaa.Er Go.Proofs.Ytpbhepdgamoiaaa.Ek Go.Proofs.Ytpbhepdgamoiaaa.Ew Go.Proofs.Ytpbhepdgamoiaaa.E Go.Proofs.Ytpbhepdgamoiaaa.Pe Go.Proofs.Ytpbhepdgamoiaaa.Pf Go.Proofs.Ytpbhepdgamoiaaa.Pg Go.Proofs.Ytpbhepdgamoiaaa.Qr Go.Proofs.Ytpbhepdgamoiaaa.Qn Go.Proofs.Ytpbhepdgamoiaaa.Qo Go.Proofs.Ytpbhepdgamoiaaa.Qp Go.Proofs.Ytpbhepdgamoiaaa.Qe Go.Proofs.Ytpbhepdgamoiaaa.Qw Go.Proofs.Ytpbhepdgamoiaaa.Oe Go.Proofs.Ytpbhepdgamoiaaa.Fr
set_option linter.unusedVariables false
set_option linter.unusedSimpArgs false
def scB (a : Int) : Bool := decide (1 ≤ a) && decide (a ≤ 1000000)
theorem scale_f (a : Int) : edit_isScale.f a = some (scB a) := by
 unfold edit_isScale.f scB
 by_cases h : a ≥ 1
 ·rw [if_pos h, decide_eq_true (show 1 ≤ a from h), Bool.true_and]
 ·rw [if_neg h, decide_eq_false (show ¬ 1 ≤ a from h), Bool.false_and]
theorem rscale_f (a : Int) : dioramaref10_isScale.f a = some (scB a) := scale_f a
end Go.Proofs.Ytpbhepdgamoiaaa.Cl
namespace Go.Proofs.Ytpbhepdgamoiaaa.So
open Go.RowKit Go Go.Proofs.Ytpbhepdgamoiaaa.Rf Go.Proofs.Ytpbhepdgamoiaaa.Er Go.Proofs.Ytpbhepdgamoiaaa.Ek Go.Proofs.Ytpbhepdgamoiaaa.Et Go.Proofs.Ytpbhepdgamoiaaa.Ew Go.Proofs.Ytpbhepdgamoiaaa.E Go.Proofs.Ytpbhepdgamoiaaa.Pe Go.Proofs.Ytpbhepdgamoiaaa.Pf Go.Proofs.Ytpbhepdgamoiaaa.Qr Go.Proofs.Ytpbhepdgamoiaaa.Qn Go.Proofs.Ytpbhepdgamoiaaa.Qw Go.Proofs.Ytpbhepdgamoiaaa.Fr Go.Proofs.Ytpbhepdgamoiaaa.Cl Go.Proofs.Ytpbhepdgamoiaaa.Nm
set_option linter.unusedVariables false
set_option linter.unusedSimpArgs false
end Go.Proofs.Ytpbhepdgamoiaaa.So
namespace Go.Proofs.Ytpbhepdgamoiaaa.Sw
open Go.RowKit Go Go.Proofs.Ytpbhepdgamoiaaa.Rf Go.Proofs.Ytpbhepdgamoiaaa.Er Go.Proofs.Ytpbhepdgamoiaaa.Ek Go.Proofs.Ytpbhepdgamoiaaa.Et Go.Proofs.Ytpbhepdgamoiaaa.E Go.Proofs.Ytpbhepdgamoiaaa.Pe Go.Proofs.Ytpbhepdgamoiaaa.Pf Go.Proofs.Ytpbhepdgamoiaaa.Nm
set_option linter.unusedVariables false
set_option linter.unusedSimpArgs false
end Go.Proofs.Ytpbhepdgamoiaaa.Sw
namespace Go.Proofs.Ytpbhepdgamoiaaa.Ct
open Go.RowKit Go Go.Proofs.YtpbhepdgamoiaaaW.PrintWords Go.Proofs.YtpbhepdgamoiaaaW.PrintLast Go.Proofs.YtpbhepdgamoiaaaW.PrintMore Go.Proofs.Ytpbhepdgamoiaaa.Mn Go.Proofs.Ytpbhepdgamoiaaa.Rf Go.Proofs.Ytpbhepdgamoiaaa.Er Go.Proofs.Ytpbhepdgamoiaaa.Ek Go.Proofs.Ytpbhepdgamoiaaa.Et Go.Proofs.Ytpbhepdgamoiaaa.Ew Go.Proofs.Ytpbhepdgamoiaaa.E Go.Proofs.Ytpbhepdgamoiaaa.Pe Go.Proofs.Ytpbhepdgamoiaaa.Pf Go.Proofs.Ytpbhepdgamoiaaa.Pg Go.Proofs.Ytpbhepdgamoiaaa.Qr Go.Proofs.Ytpbhepdgamoiaaa.Qn Go.Proofs.Ytpbhepdgamoiaaa.Qw Go.Proofs.Ytpbhepdgamoiaaa.Fr Go.Proofs.Ytpbhepdgamoiaaa.Cl Go.Proofs.Ytpbhepdgamoiaaa.Nm Go.Proofs.Ytpbhepdgamoiaaa.So Go.Proofs.Ytpbhepdgamoiaaa.Sw
set_option linter.unusedVariables false
set_option linter.unusedSimpArgs false
def cutL (ms ts fr te : Int) : List Ed → Int → List Ed → List Ed × Int
 | out, _, [] => nrmV ms ts out
 | out, b, x :: t =>
  if mn (b + x.f0) te ≤ mx b fr then cutL ms ts fr te out (b + x.f0) t
  else if 0 ≤ x.f1 then
   (if (whV (afterQ ms ts x.f1 x.f2 x.f3 (mx b fr - b))).2 = 0 then cutL ms ts fr te (out ++ [⟨mn (b + x.f0) te - mx b fr, (whV (afterQ ms ts x.f1 x.f2 x.f3 (mx b fr - b))).1, x.f2, x.f3⟩]) (b + x.f0) t
       else ([], (whV (afterQ ms ts x.f1 x.f2 x.f3 (mx b fr - b))).2))
  else cutL ms ts fr te (out ++ [⟨mn (b + x.f0) te - mx b fr, x.f1, x.f2, x.f3⟩]) (b + x.f0) t
theorem cutL_cons (ms ts fr te : Int) (out : List Ed) (b : Int) (x : Ed) (t : List Ed) : cutL ms ts fr te out b (x :: t) =
  if mn (b + x.f0) te ≤ mx b fr then cutL ms ts fr te out (b + x.f0) t
  else if 0 ≤ x.f1 then
   (if (whV (afterQ ms ts x.f1 x.f2 x.f3 (mx b fr - b))).2 = 0 then cutL ms ts fr te (out ++ [⟨mn (b + x.f0) te - mx b fr, (whV (afterQ ms ts x.f1 x.f2 x.f3 (mx b fr - b))).1, x.f2, x.f3⟩]) (b + x.f0) t
       else ([], (whV (afterQ ms ts x.f1 x.f2 x.f3 (mx b fr - b))).2))
  else cutL ms ts fr te (out ++ [⟨mn (b + x.f0) te - mx b fr, x.f1, x.f2, x.f3⟩]) (b + x.f0) t := rfl
theorem wh_rng {q : Rat} (hq : 0 ≤ q) (h : (whV q).2 = 0) : (0 ≤ (whV q).1 ∧ (whV q).1 ≤ 1099511627776) ∧ qq (whV q).1 1 = q := by
 have hn := Rat.num_nonneg.2 hq
 unfold whV at h ⊢
 by_cases h1 : q.den = 1
 ·rw [if_pos h1] at h ⊢
  by_cases h2 : 1099511627776 < q.num
  ·rw [if_pos h2] at h
   cases h
  ·rw [if_neg h2]
   refine ⟨⟨hn, by simp only; omega⟩, ?_⟩
   have := Rat.num_divInt_den q
   rw [h1] at this
   exact this
 ·rw [if_neg h1] at h
  cases h
theorem qq_nn {a b : Int} (ha : 0 ≤ a) (hb : 0 < b) : 0 ≤ qq a b := Rat.not_lt.1 (qq_nonneg ha hb)
theorem after_nn {ms ts m n e k : Int} (hc : Ck ms ts) (hm : 0 ≤ m) (hn : 0 ≤ n) (he : 1 ≤ e) (hk : 0 ≤ k) : 0 ≤ afterQ ms ts m n e k := by
 have c0 := hc.m0
 have c2 := hc.t0
 exact Rat.add_nonneg (Rat.mul_nonneg (Rat.mul_nonneg (qq_nn hk (by omega)) (qq_nn hn (by omega))) (qq_nn (by omega) (by decide))) (qq_nn hm (by decide))
theorem piece_vd {x : Ed} (hx : Vd x) {d m : Int} (h1 : 1 ≤ d) (h2 : d ≤ 1099511627776) (h3 : 0 ≤ m) (h4 : m ≤ 1099511627776) : Vd ⟨d, m, x.f2, x.f3⟩ :=
 ⟨h1, h2, by simp only; omega, h4, hx.n0, hx.n1, hx.e0, hx.e1, fun h => by simp only at h; omega⟩
theorem piece_em {x : Ed} (hx : Vd x) {d : Int} (h1 : 1 ≤ d) (h2 : d ≤ 1099511627776) : Vd ⟨d, x.f1, x.f2, x.f3⟩ :=
 ⟨h1, h2, hx.m0, hx.m1, hx.n0, hx.n1, hx.e0, hx.e1, hx.em⟩
theorem mem_snoc {out : List Ed} {y : Ed} (h : ∀ x ∈ out, Vd x) (hy : Vd y) : ∀ x ∈ out ++ [y], Vd x := by
 intro z hz
 rcases List.mem_append.1 hz with hz | hz
 ·exact h z hz
 ·rw [List.mem_singleton] at hz
  rw [hz]
  exact hy
theorem after_v {ms ts d m n e k : Int} (hc : Ck ms ts) (hm : 0 ≤ m) (hm1 : m ≤ 1099511627776) (hn : 0 ≤ n) (hn1 : n ≤ 1000) (he : 1 ≤ e) (he1 : e ≤ 1000) (hk : 0 ≤ k) (hk1 : k ≤ 1099511627776) : edit_clocks_after.f ms ts d m n e k = some (whV (afterQ ms ts m n e k)) := by
 have c0 := hc.m0
 have c1 := hc.m1
 have c2 := hc.t0
 have c3 := hc.t1
 unfold edit_clocks_after.f afOk
 rw [if_pos (by simp only [Bool.and_eq_true, decide_eq_true_eq]; omega)]
theorem mx_ge (a b : Int) : a ≤ mx a b ∧ b ≤ mx a b := by unfold mx; split <;> omega
theorem mn_le (a b : Int) : mn a b ≤ a ∧ mn a b ≤ b := by unfold mn; split <;> omega
theorem cut_l {ms ts fr te : Int} (hc : Ck ms ts) (hf : 0 ≤ fr ∧ fr ≤ 1099511627776) (ht : 0 ≤ te ∧ te ≤ 1099511627776) (l : List Ed) (hV : ∀ x ∈ l, Vd x) (hl : l.length ≤ 1000) (hs : sumD l ≤ 1099511627776) (rest : List Ed) :
  ∀ pre out, l = pre ++ rest → (∀ x ∈ out, Vd x) → out.length ≤ pre.length →
   Ev (fun k => edit_clocks_cut.l0 k fr te out (sumD pre) l (l.length : Int) (pre.length : Int) ms ts) (cutL ms ts fr te out (sumD pre) rest) := by
 induction rest with
 | nil =>
  intro pre out he hw ho
  simp only [List.append_nil] at he
  subst he
  refine Ev.step (fun k => by rw [edit_clocks_cut.l0]) ?_
  exact Ev.congr (fun k => if_neg (by omega)) (Ev.bind (normal_f hc out hw (by omega)) (Ev.now _))
 | cons x t ih =>
  intro pre out he hw ho
  have hlen : l.length = pre.length + (t.length + 1) := by rw [he]; simp
  have hx : rd_T77 l (pre.length : Int) = x := by rw [he]; exact rd_at pre x t
  have hv : Vd x := hV x (by rw [he]; simp)
  have hst : 0 ≤ sumD t := sumD_nonneg (fun y hy => hV y (by rw [he]; simp [hy]))
  have hp0 : 0 ≤ sumD pre := sumD_nonneg (fun y hy => hV y (by rw [he]; simp [hy]))
  have hsl : sumD l = sumD pre + x.f0 + sumD t := by rw [he, sumD_app]; simp only [sumD]; omega
  have hsp : sumD (pre ++ [x]) = sumD pre + x.f0 := by rw [sumD_app]; simp [sumD]
  have hd0 := hv.d0
  have hwb : wrap64 (sumD pre + x.f0) = sumD (pre ++ [x]) := by rw [hsp]; exact w64 (by omega) (by omega)
  have nx : ∀ out', (∀ x ∈ out', Vd x) → out'.length ≤ (pre ++ [x]).length → Ev (fun k => edit_clocks_cut.l0 k fr te out' (sumD (pre ++ [x])) l (l.length : Int) (wrap64 ((pre.length : Int) + 1)) ms ts) (cutL ms ts fr te out' (sumD pre + x.f0) t) := by
   intro out' h1 h2
   rw [len_step pre x (by omega), ← hsp]
   exact ih (pre ++ [x]) out' (by rw [he]; simp) h1 h2
  have a1 := mx_ge (sumD pre) fr
  have e1 := mn_le (sumD pre + x.f0) te
  have a2 : mx (sumD pre) fr ≤ 1099511627776 := by unfold mx; split <;> omega
  have e0 : 0 ≤ mn (sumD pre + x.f0) te := by unfold mn; split <;> omega
  have hA0 : 0 ≤ mx (sumD pre) fr - sumD pre := by omega
  have hA1 : mx (sumD pre) fr - sumD pre ≤ 1099511627776 := by omega
  have hwa : wrap64 (mx (sumD pre) fr - sumD pre) = mx (sumD pre) fr - sumD pre := w64 (by omega) (by omega)
  have hwd : wrap64 (mn (sumD pre + x.f0) te - mx (sumD pre) fr) = mn (sumD pre + x.f0) te - mx (sumD pre) fr := w64 (by omega) (by omega)
  have hD1 : mn (sumD pre + x.f0) te - mx (sumD pre) fr ≤ 1099511627776 := by omega
  rw [cutL_cons]
  refine Ev.step (fun k => by rw [edit_clocks_cut.l0]) ?_
  refine Ev.congr (fun k => if_pos (by omega)) (Ev.congr (fun k => if_pos (by omega)) (Ev.congr (fun k => if_pos (by omega)) ?_))
  rw [hx, hwb, hsp, hwd, hwa]
  rw [hsp] at nx
  by_cases hc1 : mn (sumD pre + x.f0) te ≤ mx (sumD pre) fr
  ·rw [if_pos hc1]
   exact Ev.congr (fun k => if_pos hc1) (nx out hw (by simp; omega))
  ·rw [if_neg hc1]
   refine Ev.congr (fun k => if_neg hc1) ?_
   have hD0 : 1 ≤ mn (sumD pre + x.f0) te - mx (sumD pre) fr := by omega
   generalize mn (sumD pre + x.f0) te - mx (sumD pre) fr = D at *
   generalize mx (sumD pre) fr - sumD pre = K at *
   have hv2 := hv.n0
   have hv3 := hv.e0
   by_cases hm : 0 ≤ x.f1
   ·rw [if_pos hm]
    refine Ev.congr (fun k => if_pos hm) ?_
    rw [after_v hc hm hv.m1 hv.n0 hv.n1 hv.e0 hv.e1 hA0 hA1]
    simp only [Option.bind_some]
    by_cases hq : (whV (afterQ ms ts x.f1 x.f2 x.f3 K)).2 = 0
    ·have r := wh_rng (after_nn hc hm hv.n0 hv.e0 hA0) hq
     rw [if_pos hq]
     exact Ev.congr (fun k => if_pos hq) (Ev.congr (fun k => if_pos (by omega)) (nx _ (mem_snoc hw (piece_vd hv hD0 hD1 r.1.1 r.1.2)) (by simp; omega)))
    ·rw [if_neg hq]
     exact Ev.congr (fun k => if_neg hq) (Ev.now _)
   ·rw [if_neg hm]
    exact Ev.congr (fun k => if_neg hm) (Ev.congr (fun k => if_pos (by omega)) (nx _ (mem_snoc hw (piece_em hv hD0 hD1)) (by simp; omega)))
theorem cut_f {ms ts fr te : Int} (hc : Ck ms ts) (hf : 0 ≤ fr ∧ fr ≤ 1099511627776) (ht : 0 ≤ te ∧ te ≤ 1099511627776) (l : List Ed) (hV : ∀ x ∈ l, Vd x) (hl : l.length ≤ 1000) (hs : sumD l ≤ 1099511627776) : Ev (fun k => edit_clocks_cut.f k ms ts l fr te) (cutL ms ts fr te [] 0 l) :=
 cut_l hc hf ht l hV hl hs l [] [] rfl (by simp) (by simp)
def cutOk (fr te : Int) : Prop := (0 ≤ fr ∧ fr ≤ 1099511627776) ∧ (0 ≤ te ∧ te ≤ 1099511627776) ∧ fr ≤ te
instance (fr te : Int) : Decidable (cutOk fr te) := inferInstanceAs (Decidable (_ ∧ _))
def cutV (ms ts fr te : Int) (l : List Ed) : List Ed × Int := if chk l ms ts = 0 then (if cutOk fr te then cutL ms ts fr te [] 0 l else ([], 1)) else ([], chk l ms ts)
def tkB (a : Int) : Bool := decide (0 ≤ a) && decide (a ≤ 1099511627776)
theorem tick_f (a : Int) : edit_isTick.f a = some (tkB a) := by
 unfold edit_isTick.f tkB
 by_cases h : a ≥ 0
 ·rw [if_pos h, decide_eq_true (show 0 ≤ a from h), Bool.true_and]
 ·rw [if_neg h, decide_eq_false (show ¬ 0 ≤ a from h), Bool.false_and]
theorem tkB_iff {a : Int} : tkB a = true ↔ 0 ≤ a ∧ a ≤ 1099511627776 := by
 unfold tkB
 simp only [Bool.and_eq_true, decide_eq_true_eq]
theorem Cut_f (l : List Ed) (ms ts fr te : Int) : Ev (fun k => edit_Cut.f k l ms ts fr te) (cutV ms ts fr te l) := by
 unfold cutV
 by_cases h0 : chk l ms ts = 0
 ·obtain ⟨hc, hl, hV, hs⟩ := chk_ok.1 h0
  rw [if_pos h0]
  have h1 := check_f l ms ts
  rw [h0] at h1
  refine Ev.congr (fun k => rfl) (Ev.bind h1 (Ev.congr (fun k => if_pos rfl) ?_))
  rw [tick_f, tick_f]
  simp only [Option.bind_some]
  by_cases h2 : tkB fr = true
  ·refine Ev.congr (fun k => if_pos h2) ?_
   by_cases h3 : tkB te = true
   ·refine Ev.congr (fun k => if_pos h3) ?_
    by_cases h4 : te < fr
    ·rw [if_neg (fun h => by have := h.2.2; omega)]
     exact Ev.congr (fun k => if_pos h4) (Ev.now _)
    ·rw [if_pos ⟨tkB_iff.1 h2, tkB_iff.1 h3, by omega⟩]
     exact Ev.congr (fun k => if_neg h4) (Ev.bind (cut_f hc (tkB_iff.1 h2) (tkB_iff.1 h3) l hV (by omega) hs) (Ev.now _))
   ·rw [if_neg (fun h => h3 (tkB_iff.2 h.2.1))]
    exact Ev.congr (fun k => if_neg h3) (Ev.now _)
  ·rw [if_neg (fun h => h2 (tkB_iff.2 h.1))]
   exact Ev.congr (fun k => if_neg h2) (Ev.now _)
 ·rw [if_neg h0]
  refine Ev.congr (fun k => rfl) (Ev.bind (check_f l ms ts) ?_)
  exact Ev.congr (fun k => if_neg h0) (Ev.now _)
end Go.Proofs.Ytpbhepdgamoiaaa.Ct
namespace Go.Proofs.Ytpbhepdgamoiaaa.Jn
open Go.RowKit Go Go.Proofs.YtpbhepdgamoiaaaW.PrintWords Go.Proofs.YtpbhepdgamoiaaaW.PrintLast Go.Proofs.YtpbhepdgamoiaaaW.PrintMore Go.Proofs.Ytpbhepdgamoiaaa.Mn Go.Proofs.Ytpbhepdgamoiaaa.Nd Go.Proofs.Ytpbhepdgamoiaaa.Z Go.Proofs.Ytpbhepdgamoiaaa.Rf Go.Proofs.Ytpbhepdgamoiaaa.Er Go.Proofs.Ytpbhepdgamoiaaa.Ek Go.Proofs.Ytpbhepdgamoiaaa.Et Go.Proofs.Ytpbhepdgamoiaaa.E Go.Proofs.Ytpbhepdgamoiaaa.Pe Go.Proofs.Ytpbhepdgamoiaaa.Pf Go.Proofs.Ytpbhepdgamoiaaa.Ct
set_option linter.unusedVariables false
set_option linter.unusedSimpArgs false
def LP (w : World) (l : List Ed) (e : Ending) (w' : World) : Prop := ∃ v, e = .returned v ∧ Kd.R k77 77 w' w.heap.size (fun _ => True) v l ∧ Below w.heap.size w w'
set_option maxHeartbeats 4000000 in
set_option maxRecDepth 100000 in
theorem grow_n (n : Int) (w : World) (h0 : 0 ≤ n) (h1 : n ≤ 1000) :
  Calls Try.prog 136 #[.slice none 0 0, .int .i64 n] w (LP w []) := by
 have HN := Aside0.mk (And.intro h0 h1)
 have hn0 : decide (n < 0) = false := decide_eq_false (by omega)
 have hw0 : wrap64 (n - 0) = n := by rw [Int.sub_zero]; exact w64 (by omega) (by omega)
 by_cases hn : n > 0
 ·have hnb : decide (n > 0) = true := decide_eq_true hn
  go_enter Try.func136, Try.ntmps136
  go_wp2_with (first | ((with_reducible refine gate_builtin (b := .append) (xs := #[.tmp 20, .tmp 21]) rfl ?_); at_builtin; refine Kd.R_append_zeros k77 (w0 := w) w.heap.size rfl (.tmp 20) (.tmp 21) 22 3 77 (.agg #[(.int .i64 0), (.int .i64 0), (.int .i64 0), (.int .i64 0)]) 32 rfl Try.underlying22 Try.underlying3 info77 rfl (by decide) (by omega) (.slice none 0 0) [] z77 n (fun _ => True) rfl rfl (k77_mkM _ _ _ z77) (fun _ _ => trivial) (Kd.R_nil _ _ _ _ _) HN.out.1 (Below.refl _ _) (Nat.le_refl _) (by have := HN.out; simp only [List.length_nil]; omega) ?_; intro v1 w1 ho hb hg hat; obtain ⟨A1, c1, e1⟩ := Kd.R_slice ho; subst e1; have HO := Aside0.mk (And.intro ho hb); clear ho hb hg hat))
  go_ret
  refine ⟨_, rfl, ?_, HO.out.2⟩
  have := Kd.R_take (m := 0) HO.out.1 (Nat.zero_le _)
  simpa using this
 ·have hnb : decide (n > 0) = false := decide_eq_false hn
  go_enter Try.func136, Try.ntmps136
  go_wp2_with fail
  go_ret
  exact ⟨_, rfl, Kd.R_nil _ _ _ _ _, Below.refl _ _⟩
set_option maxHeartbeats 8000000 in
set_option maxRecDepth 100000 in
theorem concat_n (g : Nat) (A0 A1 : Option Addr) (c0 c1 : Nat) (l0 l1 : List Ed) (w : World) (hg : w.heap[g]? = some (.cells #[.slice A0 l0.length c0, .slice A1 l1.length c1] 22 (0, 0))) (h0 : Kd.C k77 w A0 l0.length l0) (h1 : Kd.C k77 w A1 l1.length l1) (hl0 : l0.length ≤ 400) (hl1 : l1.length ≤ 400) :
  Calls Try.prog 95 #[.slice (some ⟨g, 0, none⟩) 2 2] w (LP w (l0 ++ l1)) := by
 have HG := Aside0.mk (And.intro hg (And.intro h0 h1))
 have HL := Aside0.mk (And.intro hl0 hl1)
 have hwa : wrap64 (l0.length : Int) = l0.length := w64 (by omega) (by omega)
 have hwb : wrap64 ((l0.length : Int) + (l1.length : Int)) = (l0.length : Int) + l1.length := w64 (by omega) (by omega)
 have hna : decide (wrap64 (l0.length : Int) < 0) = false := decide_eq_false (by rw [hwa]; omega)
 have hnb : decide (wrap64 ((l0.length : Int) + (l1.length : Int)) < 0) = false := decide_eq_false (by rw [hwb]; omega)
 clear hg h0 h1 hl0 hl1
 go_enter Try.func95, Try.ntmps95
 go_wp2_with fail
 go_loopg [3, 11] 2 (fun kq v3 v11 w' => ∃ i s : Int, v3 = .int .i64 s ∧ v11 = .int .i64 i ∧ Aside0 (Below w.heap.size w w') ∧ Aside0 ((i = 0 ∧ s = 0 ∧ kq = 2) ∨ (i = 1 ∧ s = l0.length ∧ kq = 1) ∨ (i = 2 ∧ s = (l0.length : Int) + l1.length ∧ kq = 0)))
 case atStart => exact ⟨0, 0, rfl, rfl, ⟨Below.refl _ _⟩, ⟨.inl ⟨rfl, rfl, rfl⟩⟩⟩
 case round =>
  obtain ⟨i, s, rfl, rfl, HB, hi⟩ := hrel
  have hg1 := blk_below HG.out.1 HB.out
  rcases hi.out with ⟨rfl, rfl, rfl⟩ | ⟨rfl, rfl, rfl⟩ | ⟨rfl, rfl, rfl⟩
  ·have q0 : wr.cell? ⟨g, 0, none⟩ = some (.slice A0 l0.length c0) := (blk_cell hg1 0).trans rfl
   clear hg1 hi
   go_wp2_with fail
   go_roundg 1
   case measure => omega
   case rel => exact ⟨1, l0.length, by first | rfl | (rw [hwa]), by first | rfl | decide, ⟨HB.out⟩, ⟨.inr (.inl ⟨rfl, rfl, rfl⟩)⟩⟩
  ·have q0 : wr.cell? ⟨g, 1, none⟩ = some (.slice A1 l1.length c1) := (blk_cell hg1 1).trans rfl
   clear hg1 hi
   go_wp2_with fail
   go_roundg 0
   case measure => omega
   case rel => exact ⟨2, (l0.length : Int) + l1.length, by first | rfl | (rw [hwb]), by first | rfl | decide, ⟨HB.out⟩, ⟨.inr (.inr ⟨rfl, rfl, rfl⟩)⟩⟩
  ·clear hg1 hi
   go_wp2_with fail
   refine (grow_n ((l0.length : Int) + l1.length) wr (by omega) (by have := HL.out; omega)).mono ?_
   rintro e w2 ⟨v, rfl, hr2, hb2⟩
   have HB1 := Aside0.mk (HB.out.trans (hb2.mono HB.out.size))
   have HO1 := Aside0.mk (Kd.R_lower hr2 HB.out.size)
   clear hr2 hb2 HB
   go_wp2_with fail
   go_loopg [6, 27] 2 (fun kq v6 v27 w' => ∃ (i : Int) (x : List Ed), v27 = .int .i64 i ∧ Aside0 (Below w.heap.size w w') ∧ Aside0 (Kd.R k77 77 w' w.heap.size (fun _ => True) v6 x) ∧ Aside0 ((i = 0 ∧ x = [] ∧ kq = 2) ∨ (i = 1 ∧ x = l0 ∧ kq = 1) ∨ (i = 2 ∧ x = l0 ++ l1 ∧ kq = 0)))
   case atStart => exact ⟨0, [], rfl, ⟨HB1.out⟩, ⟨HO1.out⟩, ⟨.inl ⟨rfl, rfl, rfl⟩⟩⟩
   case round =>
    clear HB1 HO1
    obtain ⟨i, x, rfl, HB, HO, hi⟩ := hrel
    have hg1 := blk_below HG.out.1 HB.out
    rcases hi.out with ⟨rfl, rfl, rfl⟩ | ⟨rfl, rfl, rfl⟩ | ⟨rfl, rfl, rfl⟩
    ·have q0 : wr.cell? ⟨g, 0, none⟩ = some (.slice A0 l0.length c0) := (blk_cell hg1 0).trans rfl
     clear hg1 hi
     go_wp2_with (first | ((with_reducible refine gate_builtin (b := .append) (xs := #[.tmp 31, .tmp 32]) rfl ?_); at_builtin; refine Kd.R_append_rows k77 (w0 := w) w.heap.size rfl (.tmp 31) (.tmp 32) 22 77 (.agg #[(.int .i64 0), (.int .i64 0), (.int .i64 0), (.int .i64 0)]) 32 rfl Try.underlying22 info77 rfl (by decide) (by omega) u6 [] l0 _ _ _ (fun _ => True) (fun _ => False) rfl rfl HO.out (Kd.C_below HG.out.2.1 HB.out) (fun _ _ h => h) (fun _ h => h.elim) (fun _ _ => trivial) HB.out HB.out.size (by have := HL.out; (try simp only [List.length_nil]); omega) ?_; intro v6' w9 ho hb hg hat; have HO2 := Aside0.mk ho; have HB2 := Aside0.mk hb; clear ho hb hg hat))
     go_roundg 1
     case measure => omega
     case rel => exact ⟨1, l0, by first | rfl | decide, ⟨HB2.out⟩, ⟨HO2.out⟩, ⟨.inr (.inl ⟨rfl, rfl, rfl⟩)⟩⟩
    ·have q0 : wr.cell? ⟨g, 1, none⟩ = some (.slice A1 l1.length c1) := (blk_cell hg1 1).trans rfl
     clear hg1 hi
     go_wp2_with (first | ((with_reducible refine gate_builtin (b := .append) (xs := #[.tmp 31, .tmp 32]) rfl ?_); at_builtin; refine Kd.R_append_rows k77 (w0 := w) w.heap.size rfl (.tmp 31) (.tmp 32) 22 77 (.agg #[(.int .i64 0), (.int .i64 0), (.int .i64 0), (.int .i64 0)]) 32 rfl Try.underlying22 info77 rfl (by decide) (by omega) u6 x l1 _ _ _ (fun _ => True) (fun _ => False) rfl rfl HO.out (Kd.C_below HG.out.2.2 HB.out) (fun _ _ h => h) (fun _ h => h.elim) (fun _ _ => trivial) HB.out HB.out.size (by have := HL.out; (try simp only [List.length_nil]); omega) ?_; intro v6' w9 ho hb hg hat; have HO2 := Aside0.mk ho; have HB2 := Aside0.mk hb; clear ho hb hg hat))
     go_roundg 0
     case measure => omega
     case rel => exact ⟨2, x ++ l1, by first | rfl | decide, ⟨HB2.out⟩, ⟨HO2.out⟩, ⟨.inr (.inr ⟨rfl, rfl, rfl⟩)⟩⟩
    ·clear hg1 hi
     go_wp2_with fail
     go_ret
     exact ⟨_, rfl, HO.out, HB.out⟩
def TP (w : World) (r : List Ed × Int) (e : Ending) (w' : World) : Prop := ∃ v, e = .returned (.tuple #[v, .int .i64 r.2]) ∧ Kd.R k77 77 w' w.heap.size (fun _ => True) v r.1 ∧ Below w.heap.size w w'
theorem TP.below {w w1 : World} {r : List Ed × Int} {e : Ending} {w' : World} (h : TP w1 r e w') (hb : Below w.heap.size w w1) : TP w r e w' := by
 obtain ⟨v, he, hr, hb2⟩ := h
 exact ⟨v, he, Kd.R_lower hr hb.size, hb.trans (hb2.mono hb.size)⟩
theorem normal_n {ms ts : Int} (hc : Ck ms ts) (A : Option Addr) (c : Nat) (l : List Ed) (hV : ∀ x ∈ l, Vd x) (hl : l.length ≤ 1000000000) (w : World) (hr : Kd.C k77 w A l.length l) (hcc : l.length ≤ c) :
  Calls Try.prog 57 #[.agg #[.int .i64 ms, .int .i64 ts], .slice A l.length c] w (TP w (nrmV ms ts l)) := by
 obtain ⟨k, hk⟩ := (normal_f hc l hV hl).rounds
 exact edit_clocks_normal.calls k ms ts A c l _ _ w hr hcc hk
theorem cut_n {ms ts fr te : Int} (hc : Ck ms ts) (hf : 0 ≤ fr ∧ fr ≤ 1099511627776) (ht : 0 ≤ te ∧ te ≤ 1099511627776) (A : Option Addr) (c : Nat) (l : List Ed) (hV : ∀ x ∈ l, Vd x) (hl : l.length ≤ 1000) (hs : sumD l ≤ 1099511627776) (w : World) (hr : Kd.C k77 w A l.length l) (hcc : l.length ≤ c) :
  Calls Try.prog 93 #[.agg #[.int .i64 ms, .int .i64 ts], .slice A l.length c, .int .i64 fr, .int .i64 te] w (TP w (cutL ms ts fr te [] 0 l)) := by
 obtain ⟨k, hk⟩ := (cut_f hc hf ht l hV hl hs).rounds
 exact edit_clocks_cut.calls k ms ts A c l fr te _ _ w hr hcc hk
def delV (ms ts y : Int) (l : List Ed) : List Ed × Int := if chk l ms ts = 0 then (if y < -1099511627776 ∨ 1099511627776 < y then ([], 1) else if y ≤ 0 then cutL ms ts (-y) 1099511627776 [] 0 l else nrmV ms ts (⟨y, -1, 1, 1⟩ :: l)) else ([], chk l ms ts)
theorem one_row {w : World} {g : Nat} (x : Ed) (h : w.heap[g]? = some (edO x.f0 x.f1 x.f2 x.f3)) : Kd.C k77 w (some ⟨g, 0, none⟩) 1 [x] := by
 refine ⟨rfl, by decide, fun _ => ⟨⟨g, 0, none⟩, rfl, fun j p hj => ⟨_, rfl, k77_mk w p, fun i u hu => ?_⟩⟩⟩
 cases j with
 | succ j => cases hj
 | zero =>
  obtain rfl : x = p := Option.some.inj hj
  have e : (⟨g, 0, none⟩ : Addr).add (0 * (k77).sz + i) = ⟨g, i, none⟩ := by rw [Nat.zero_mul, Nat.zero_add]; exact add_plain g i
  rw [e]
  refine (blk_cell h i).trans ?_
  simpa using hu
theorem concat1_n (g g3 : Nat) (x : Ed) (A1 : Option Addr) (c1 : Nat) (l1 : List Ed) (w : World) (hg : w.heap[g]? = some (.cells #[.slice (some ⟨g3, 0, none⟩) 1 1, .slice A1 l1.length c1] 22 (0, 0))) (hx : w.heap[g3]? = some (edO x.f0 x.f1 x.f2 x.f3)) (h1 : Kd.C k77 w A1 l1.length l1) (hl1 : l1.length ≤ 400) :
  Calls Try.prog 95 #[.slice (some ⟨g, 0, none⟩) 2 2] w (LP w (x :: l1)) :=
 concat_n g (some ⟨g3, 0, none⟩) A1 1 c1 [x] l1 w hg (one_row x hx) h1 (by simp) hl1
structure Dx (w W : World) (ms ts : Int) (g : Nat) : Prop where
 c : W.heap[g]? = some (clO ms ts)
 below : Below w.heap.size w W
theorem Dx.step {w W W2 : World} {ms ts : Int} {g : Nat} (h : Dx w W ms ts g) (hb : Below W.heap.size W W2) : Dx w W2 ms ts g := ⟨blk_below h.c hb, h.below.trans (hb.mono h.below.size)⟩
theorem Dx.start {w W : World} (ms ts : Int) (h : Below w.heap.size w W) : Dx w (W.alloc (clO ms ts)) ms ts W.heap.size := ⟨blk_new W _, h.trans ((below_alloc (Below.refl W.heap.size W) _).mono h.size)⟩
set_option maxHeartbeats 8000000 in
set_option maxRecDepth 100000 in
theorem delay_n (A0 : Option Addr) (c0 : Nat) (l0 : List Ed) (ms ts y : Int) (w : World) (h0 : Kd.C k77 w A0 l0.length l0) (hc0 : l0.length ≤ c0) (hy : I64 y) :
  Calls Try.prog 40 #[.slice A0 l0.length c0, .int .i64 ms, .int .i64 ts, .int .i64 y] w (TP w (delV ms ts y l0)) := by
 have hu := Try.underlying79
 have hu2 := Try.underlying115
 have hu3 := Try.underlying77
 have HG := Aside0.mk (And.intro h0 hc0)
 have HV := Aside0.mk (show delV ms ts y l0 = if chk l0 ms ts = 0 then (if y < -1099511627776 ∨ 1099511627776 < y then ([], 1) else if y ≤ 0 then cutL ms ts (-y) 1099511627776 [] 0 l0 else nrmV ms ts (⟨y, -1, 1, 1⟩ :: l0)) else ([], chk l0 ms ts) from rfl)
 have HK := Aside0.mk (fun h : chk l0 ms ts = 0 => chk_ok.1 h)
 generalize delV ms ts y l0 = V at *
 have HC := Aside0.mk (show ∀ W, Kd.C k77 W A0 l0.length l0 → Calls Try.prog 24 #[.slice A0 l0.length c0, .int .i64 ms, .int .i64 ts] W (ValP W (.int .i64 (chk l0 ms ts))) from fun W hr => check_n A0 c0 l0 ms ts W hr hc0)
 generalize chk l0 ms ts = C at *
 clear h0 hc0
 go_enter Try.func40, Try.ntmps40
 go_wp2_with fail
 refine (HC.out w HG.out.1).mono ?_
 rintro e w2 ⟨rfl, hb2⟩
 have HB2 := Aside0.mk hb2
 clear hb2
 by_cases hz : C = 0
 case neg =>
  have HV2 := Aside0.mk (show V = ([], C) by rw [HV.out, if_neg hz])
  clear HV HK
  go_wp2_with fail
  go_ret2
  rw [HV2.out]
  exact ⟨_, rfl, Kd.R_nil _ _ _ _ _, HB2.out⟩
 subst hz
 have HV2 := Aside0.mk (show V = if y < -1099511627776 ∨ 1099511627776 < y then ([], 1) else if y ≤ 0 then cutL ms ts (-y) 1099511627776 [] 0 l0 else nrmV ms ts (⟨y, -1, 1, 1⟩ :: l0) by rw [HV.out, if_pos rfl])
 have HK2 := Aside0.mk (HK.out rfl)
 clear HV HK HC
 have hD := Aside0.mk (Dx.start ms ts HB2.out)
 by_cases y1 : y < -1099511627776
 ·have HV3 := Aside0.mk (show V = ([], 1) by rw [HV2.out, if_pos (.inl y1)])
  have b1 : decide (y < -1099511627776) = true := decide_eq_true y1
  clear HV2
  go_wp2_with fail
  go_ret2
  rw [HV3.out]
  exact ⟨_, rfl, Kd.R_nil _ _ _ _ _, hD.out.below⟩
 have b1 : decide (y < -1099511627776) = false := decide_eq_false y1
 by_cases y2 : y > 1099511627776
 ·have HV3 := Aside0.mk (show V = ([], 1) by rw [HV2.out, if_pos (.inr y2)])
  have b2 : decide (y > 1099511627776) = true := decide_eq_true y2
  clear HV2
  go_wp2_with fail
  go_ret2
  rw [HV3.out]
  exact ⟨_, rfl, Kd.R_nil _ _ _ _ _, hD.out.below⟩
 have b2 : decide (y > 1099511627776) = false := decide_eq_false y2
 have hwn : wrap64 (-y) = -y := w64 (by omega) (by omega)
 by_cases y3 : y ≤ 0
 ·have HV3 := Aside0.mk (show V = cutL ms ts (-y) 1099511627776 [] 0 l0 by rw [HV2.out, if_neg (by omega), if_pos y3])
  have b3 : decide (y ≤ 0) = true := decide_eq_true y3
  have HY := Aside0.mk (show 0 ≤ -y ∧ -y ≤ 1099511627776 by omega)
  clear HV2
  go_wp2_with fail
  refine (cut_n HK2.out.1 HY.out ⟨by decide, by decide⟩ A0 c0 l0 HK2.out.2.2.1 (by have := HK2.out.2.1; omega) HK2.out.2.2.2 _ (Kd.C_below HG.out.1 hD.out.below) HG.out.2).mono ?_
  rintro e w3 ⟨v, rfl, hr3, hb3⟩
  have H3 := Aside0.mk (And.intro (Kd.R_lower hr3 hD.out.below.size) (hD.out.below.trans (hb3.mono hD.out.below.size)))
  obtain ⟨A3, c3, rfl⟩ := Kd.R_slice hr3
  clear hr3 hb3
  rw [← HV3.out] at H3 ⊢
  go_wp2_with fail
  go_ret2
  exact ⟨_, rfl, H3.out.1, H3.out.2⟩
 ·have HV3 := Aside0.mk (show V = nrmV ms ts (⟨y, -1, 1, 1⟩ :: l0) by rw [HV2.out, if_neg (by omega), if_neg y3])
  have b3 : decide (y ≤ 0) = false := decide_eq_false y3
  have HQ := Aside0.mk (show Ck ms ts ∧ (∀ x ∈ (⟨y, -1, 1, 1⟩ : Ed) :: l0, Vd x) ∧ l0.length ≤ 20 by
   refine ⟨HK2.out.1, fun x hx => ?_, HK2.out.2.1⟩
   rcases List.mem_cons.1 hx with rfl | hx
   ·exact ⟨by simp only; omega, by simp only; omega, by simp only; omega, by simp only; omega, by simp only; omega, by simp only; omega, by simp only; omega, by simp only; omega, fun _ => ⟨rfl, rfl⟩⟩
   ·exact HK2.out.2.2.1 x hx)
  clear HV2 HK2
  go_wp2_with fail
  generalize hW : World.alloc w2 _ = W
  have HD := Aside0.mk (show Dx w W ms ts w2.heap.size by rw [← hW]; exact hD.out)
  clear hW hD
  generalize w2.heap.size = gc at *
  have hb0 : Below W.heap.size W W.drew := below_drew' (Below.refl _ _)
  refine start_ (n := 12) (S := fun w' => w'.cell? ⟨gc, 0, none⟩ = some (.int .i64 ms) ∧ w'.cell? ⟨gc, 1, none⟩ = some (.int .i64 ts)) (ds := [7]) (bs 12 0) (by kernel_rfl) rfl rfl ⟨(cl_cells (HD.out.step hb0).c).1, (cl_cells (HD.out.step hb0).c).2⟩ (fun hHeld => ?_)
  refine zP 1 40 12 2 ?_
  refine zP 2 41 12 6 ?_
  refine zP 4 43 12 22 ?_
  refine zT 0 39 12 23 hHeld ?_
  refine zN 3 (some 42) 12 31 (fun K hK => ?_)
  refine value_ (v := .slice (some ⟨W.drew.heap.size, 0, none⟩) 1 1) (w1 := W.drew.alloc (.cells #[.int .i64 y, .int .i64 (-1), .int .i64 1, .int .i64 1] 77 (0, 0))) (by rfl) rfl ?_ ?_
  ·go_simp
  have hx3 := blk_new W.drew (.cells #[.int .i64 y, .int .i64 (-1), .int .i64 1, .int .i64 1] 77 (0, 0))
  have hb3 := hb0.trans ((below_alloc (Below.refl W.drew.heap.size W.drew) (.cells #[.int .i64 y, .int .i64 (-1), .int .i64 1, .int .i64 1] 77 (0, 0))).mono hb0.size)
  generalize hW3 : World.alloc W.drew _ = W3 at *
  generalize W.drew.heap.size = g3 at *
  have hd3 := HD.out.step hb3
  refine hK.out _ _ ⟨(cl_cells hd3.c).1, (cl_cells hd3.c).2⟩ (fun hHeld => ?_)
  clear hK K
  refine zM 42 ?_
  refine zN 5 (some 44) 12 63 (fun K hK => ?_)
  refine value_ (v := .slice (some ⟨W3.heap.size, 0, none⟩) 2 2) (w1 := W3.alloc (.cells #[.slice (some ⟨g3, 0, none⟩) 1 1, .slice A0 l0.length c0] 22 (0, 0))) (by rfl) rfl ?_ ?_
  ·go_simp
  have hx5 := blk_new W3 (.cells #[.slice (some ⟨g3, 0, none⟩) 1 1, .slice A0 l0.length c0] 22 (0, 0))
  have hq5 := below_alloc (Below.refl W3.heap.size W3) (.cells #[.slice (some ⟨g3, 0, none⟩) 1 1, .slice A0 l0.length c0] 22 (0, 0))
  have hb5 := hb3.trans (hq5.mono hb3.size)
  have hx35 : (W3.alloc (.cells #[.slice (some ⟨g3, 0, none⟩) 1 1, .slice A0 l0.length c0] 22 (0, 0))).heap[g3]? = some (edO (⟨y, -1, 1, 1⟩ : Ed).f0 (⟨y, -1, 1, 1⟩ : Ed).f1 (⟨y, -1, 1, 1⟩ : Ed).f2 (⟨y, -1, 1, 1⟩ : Ed).f3) := blk_below hx3 hq5
  generalize hW5 : World.alloc W3 _ = W5 at *
  generalize W3.heap.size = g5 at *
  have hd5 := HD.out.step hb5
  clear hW5 hW3 hq5 hx3
  refine hK.out _ _ ⟨(cl_cells hd5.c).1, (cl_cells hd5.c).2⟩ (fun hHeld => ?_)
  clear hK K
  refine zM 44 ?_
  refine zN 6 (some 45) 12 127 (fun K hK => ?_)
  refine zG Try.func95 #[.slice (some ⟨g5, 0, none⟩) 2 2] ?_
  with_reducible refine (concat1_n g5 g3 (⟨y, -1, 1, 1⟩ : Ed) A0 c0 l0 W5 hx5 hx35 (Kd.C_below HG.out.1 (HD.out.below.trans (hb5.mono HD.out.below.size))) (by have := HQ.out.2.2; omega)).mono ?_
  rintro e w6 ⟨v6, rfl, hr6, hb6⟩
  refine ⟨_, rfl, ?_⟩
  have H6 := Aside0.mk (And.intro hr6 (hb5.trans (hb6.mono hb5.size)))
  have hd6 := HD.out.step H6.out.2
  have HQ2 := Aside0.mk (And.intro HQ.out.1 (And.intro HQ.out.2.1 (show ((⟨y, -1, 1, 1⟩ : Ed) :: l0).length ≤ 1000000000 by have := HQ.out.2.2; simp only [List.length_cons]; omega)))
  clear HQ
  generalize (⟨y, -1, 1, 1⟩ : Ed) :: l0 = L at *
  obtain ⟨A6, c6, rfl⟩ := Kd.R_slice hr6
  clear hr6 hb6
  refine hK.out _ _ ⟨(cl_cells hd6.c).1, (cl_cells hd6.c).2⟩ (fun hHeld => ?_)
  clear hK K
  refine zM 45 ?_
  refine zL 7 (some 46) 12 255 (fun K hK => ?_)
  refine zG Try.func57 #[.agg #[.int .i64 ms, .int .i64 ts], .slice A6 L.length c6] ?_
  with_reducible refine (normal_n HQ2.out.1 A6 c6 L HQ2.out.2.1 HQ2.out.2.2 w6 (Kd.R_reads' H6.out.1).2.2 (Kd.R_reads' H6.out.1).2.1).mono ?_
  rintro e w7 ⟨v7, rfl, hr7, hb7⟩
  refine ⟨_, rfl, ?_⟩
  have h67 := H6.out.2.trans (hb7.mono H6.out.2.size)
  have H7 := Aside0.mk (And.intro (Kd.R_lower hr7 (Nat.le_trans HD.out.below.size H6.out.2.size)) (HD.out.below.trans (h67.mono HD.out.below.size)))
  obtain ⟨A7, c7, rfl⟩ := Kd.R_slice hr7
  clear hr7 hb7 h67
  rw [← HV3.out] at H7 ⊢
  refine hK.out _ _ ?_
  clear hK K
  refine zM 46 ?_
  refine zP 8 47 12 511 ?_
  refine zP 9 48 12 1023 ?_
  refine zP 10 8 12 2047 ?_
  refine zP 11 9 12 4095 ?_
  refine done_ (by kernel_rfl) ?_
  go_wp2_with fail
  go_ret2
  exact ⟨_, rfl, H7.out.1, H7.out.2⟩
end Go.Proofs.Ytpbhepdgamoiaaa.Jn
namespace Go.Proofs.Ytpbhepdgamoiaaa.E
open Go.RowKit Go Go.Proofs.YtpbhepdgamoiaaaW.PrintWords Go.Proofs.YtpbhepdgamoiaaaW.PrintLast Go.Proofs.YtpbhepdgamoiaaaW.PrintMore Go.Proofs.Ytpbhepdgamoiaaa.Pe Go.Proofs.Ytpbhepdgamoiaaa.Jn
def edit_Delay.f (l0 : List (S77)) (a1 : Int) (a2 : Int) (a3 : Int) : Option ((List (S77)) × Int) := if in64 a3 = true then some (delV a1 a2 a3 l0) else none
theorem edit_Delay.calls (A0 : Option Addr) (c0 : Nat) (l0 : List (S77)) (a1 : Int) (a2 : Int) (a3 : Int) (r1 : List (S77)) (r2 : Int) (w : World) (hr0 : Kd.C k77 w A0 l0.length l0) (hc0 : l0.length ≤ c0) (h : edit_Delay.f l0 a1 a2 a3 = some (r1, r2)) :
  Calls Try.prog 40 #[.slice A0 l0.length c0, .int .i64 a1, .int .i64 a2, .int .i64 a3] w fun e w' => ∃ v0_ : Value, e = .returned (.tuple #[v0_, .int .i64 r2]) ∧ Kd.R k77 77 w' w.heap.size (fun _ => True) v0_ r1 ∧ Below w.heap.size w w' := by
 unfold edit_Delay.f at h
 split at h
 ·rename_i hi
  have hV : delV a1 a2 a3 l0 = (r1, r2) := Option.some.inj h
  have := delay_n A0 c0 l0 a1 a2 a3 w hr0 hc0 (in64_iff.1 hi)
  rw [hV] at this
  exact this
 ·cases h
end Go.Proofs.Ytpbhepdgamoiaaa.E
namespace Go.Proofs.Ytpbhepdgamoiaaa.Rct
open Go.RowKit Go Go.Proofs.YtpbhepdgamoiaaaW.PrintWords Go.Proofs.YtpbhepdgamoiaaaW.PrintLast Go.Proofs.YtpbhepdgamoiaaaW.PrintMore Go.Proofs.Ytpbhepdgamoiaaa.Mn Go.Proofs.Ytpbhepdgamoiaaa.Rf Go.Proofs.Ytpbhepdgamoiaaa.Er Go.Proofs.Ytpbhepdgamoiaaa.Ek Go.Proofs.Ytpbhepdgamoiaaa.Et Go.Proofs.Ytpbhepdgamoiaaa.Ew Go.Proofs.Ytpbhepdgamoiaaa.E Go.Proofs.Ytpbhepdgamoiaaa.Pe Go.Proofs.Ytpbhepdgamoiaaa.Pf Go.Proofs.Ytpbhepdgamoiaaa.Pg Go.Proofs.Ytpbhepdgamoiaaa.Qr Go.Proofs.Ytpbhepdgamoiaaa.Qn Go.Proofs.Ytpbhepdgamoiaaa.Qo Go.Proofs.Ytpbhepdgamoiaaa.Qp Go.Proofs.Ytpbhepdgamoiaaa.Qw Go.Proofs.Ytpbhepdgamoiaaa.Fr Go.Proofs.Ytpbhepdgamoiaaa.Cl Go.Proofs.Ytpbhepdgamoiaaa.Nm Go.Proofs.Ytpbhepdgamoiaaa.So Go.Proofs.Ytpbhepdgamoiaaa.Ct
set_option linter.unusedVariables false
set_option linter.unusedSimpArgs false
theorem wh_int {m : Int} (h1 : m ≤ 1099511627776) : whV (qq m 1) = (m, 0) := by
 rw [whV_qq (by decide), Int.emod_one, if_pos rfl, Int.ediv_one, if_neg (by omega)]
theorem after_z1 (ms ts m n e : Int) : afterQ ms ts m n e 0 = qq m 1 := by
 unfold afterQ
 rw [qq_zero]
 grind
theorem after_z2 (ms ts m e k : Int) : afterQ ms ts m 0 e k = qq m 1 := by
 unfold afterQ
 rw [qq_zero]
 grind
theorem after_media {ms ts m n e k : Int} (hc : Ck ms ts) : (qq m ts + qq k ms * qq n e) * qq ts 1 = afterQ ms ts m n e k := by
 have c2 := hc.t0
 unfold afterQ
 rw [qq_split (m := m) (t := ts) (by omega)]
 grind
theorem rcut_l {ms ts fr te : Int} (hc : Ck ms ts) (hf : 0 ≤ fr ∧ fr ≤ 1099511627776) (ht : 0 ≤ te ∧ te ≤ 1099511627776) (l : List Ed) (hV : ∀ x ∈ l, Vd x) (hl : l.length ≤ 1000) (hs : sumD l ≤ 1099511627776) (rest : List Ed) :
  ∀ pre out, l = pre ++ rest → (∀ x ∈ out, Vd x) → out.length ≤ pre.length →
   Ev (fun k => dioramaref10_cut.l0 k l ms ts fr te out (sumD pre) (pre.length : Int)) (cutL ms ts fr te out (sumD pre) rest) := by
 induction rest with
 | nil =>
  intro pre out he hw ho
  simp only [List.append_nil] at he
  subst he
  refine Ev.step (fun k => by rw [dioramaref10_cut.l0]) ?_
  exact Ev.congr (fun k => if_neg (by omega)) (Ev.bind (told_f hc out hw (by omega)) (Ev.now _))
 | cons x t ih =>
  intro pre out he hw ho
  have hlen : l.length = pre.length + (t.length + 1) := by rw [he]; simp
  have hx : rd_T77 l (pre.length : Int) = x := by rw [he]; exact rd_at pre x t
  have hv : Vd x := hV x (by rw [he]; simp)
  have hst : 0 ≤ sumD t := sumD_nonneg (fun y hy => hV y (by rw [he]; simp [hy]))
  have hp0 : 0 ≤ sumD pre := sumD_nonneg (fun y hy => hV y (by rw [he]; simp [hy]))
  have hsl : sumD l = sumD pre + x.f0 + sumD t := by rw [he, sumD_app]; simp only [sumD]; omega
  have hsp : sumD (pre ++ [x]) = sumD pre + x.f0 := by rw [sumD_app]; simp [sumD]
  have hd0 := hv.d0
  have hwb : wrap64 (sumD pre + x.f0) = sumD pre + x.f0 := w64 (by omega) (by omega)
  have nx : ∀ out', (∀ x ∈ out', Vd x) → out'.length ≤ (pre ++ [x]).length → Ev (fun k => dioramaref10_cut.l0 k l ms ts fr te out' (sumD pre + x.f0) (wrap64 ((pre.length : Int) + 1))) (cutL ms ts fr te out' (sumD pre + x.f0) t) := by
   intro out' h1 h2
   rw [len_step pre x (by omega), ← hsp]
   exact ih (pre ++ [x]) out' (by rw [he]; simp) h1 h2
  have a1 := mx_ge (sumD pre) fr
  have e1 := mn_le (sumD pre + x.f0) te
  have a2 : mx (sumD pre) fr ≤ 1099511627776 := by unfold mx; split <;> omega
  have e0 : 0 ≤ mn (sumD pre + x.f0) te := by unfold mn; split <;> omega
  have hA0 : 0 ≤ mx (sumD pre) fr - sumD pre := by omega
  have hA1 : mx (sumD pre) fr - sumD pre ≤ 1099511627776 := by omega
  have hwa : wrap64 (mx (sumD pre) fr - sumD pre) = mx (sumD pre) fr - sumD pre := w64 (by omega) (by omega)
  have hwd : wrap64 (mn (sumD pre + x.f0) te - mx (sumD pre) fr) = mn (sumD pre + x.f0) te - mx (sumD pre) fr := w64 (by omega) (by omega)
  have hD1 : mn (sumD pre + x.f0) te - mx (sumD pre) fr ≤ 1099511627776 := by omega
  rw [cutL_cons]
  refine Ev.step (fun k => by rw [dioramaref10_cut.l0]) ?_
  refine Ev.congr (fun k => if_pos (by omega)) (Ev.congr (fun k => if_pos (by omega)) ?_)
  rw [hx, hwb, hwd]
  by_cases hc1 : mn (sumD pre + x.f0) te ≤ mx (sumD pre) fr
  ·rw [if_pos hc1]
   exact Ev.congr (fun k => if_neg (by omega)) (nx out hw (by simp; omega))
  ·rw [if_neg hc1]
   refine Ev.congr (fun k => if_pos (by omega)) ?_
   have hD0 : 1 ≤ mn (sumD pre + x.f0) te - mx (sumD pre) fr := by omega
   have hm0 := hv.m0
   have hm1 := hv.m1
   have hn0 := hv.n0
   have hn1 := hv.n1
   have he0 := hv.e0
   have he1 := hv.e1
   have hie : ∀ d : Int, dioramaref10_isEmpty.f d x.f1 x.f2 x.f3 = some (x.f1 == -1) := fun _ => rfl
   have keep : cutL ms ts fr te (out ++ [⟨mn (sumD pre + x.f0) te - mx (sumD pre) fr, x.f1, x.f2, x.f3⟩]) (sumD pre + x.f0) t = (if 0 ≤ x.f1 then
     (if (whV (afterQ ms ts x.f1 x.f2 x.f3 (mx (sumD pre) fr - sumD pre))).2 = 0 then cutL ms ts fr te (out ++ [⟨mn (sumD pre + x.f0) te - mx (sumD pre) fr, (whV (afterQ ms ts x.f1 x.f2 x.f3 (mx (sumD pre) fr - sumD pre))).1, x.f2, x.f3⟩]) (sumD pre + x.f0) t
           else ([], (whV (afterQ ms ts x.f1 x.f2 x.f3 (mx (sumD pre) fr - sumD pre))).2))
    else cutL ms ts fr te (out ++ [⟨mn (sumD pre + x.f0) te - mx (sumD pre) fr, x.f1, x.f2, x.f3⟩]) (sumD pre + x.f0) t) →
     Ev (fun k => dioramaref10_cut.j1 k l ms ts fr te out (sumD pre) (pre.length : Int) (mx (sumD pre) fr) false (mn (sumD pre + x.f0) te - mx (sumD pre) fr) x.f1 x.f2 x.f3) (if 0 ≤ x.f1 then
     (if (whV (afterQ ms ts x.f1 x.f2 x.f3 (mx (sumD pre) fr - sumD pre))).2 = 0 then cutL ms ts fr te (out ++ [⟨mn (sumD pre + x.f0) te - mx (sumD pre) fr, (whV (afterQ ms ts x.f1 x.f2 x.f3 (mx (sumD pre) fr - sumD pre))).1, x.f2, x.f3⟩]) (sumD pre + x.f0) t
           else ([], (whV (afterQ ms ts x.f1 x.f2 x.f3 (mx (sumD pre) fr - sumD pre))).2))
    else cutL ms ts fr te (out ++ [⟨mn (sumD pre + x.f0) te - mx (sumD pre) fr, x.f1, x.f2, x.f3⟩]) (sumD pre + x.f0) t) := by
    intro hk
    rw [← hk]
    refine Ev.step (fun k => by rw [dioramaref10_cut.j1]) (Ev.congr (fun k => if_neg (by decide)) ?_)
    refine Ev.congr (fun k => if_pos (by omega)) (Ev.congr (fun k => if_pos (by omega)) (Ev.congr (fun k => if_pos (by omega)) ?_))
    rw [hx, hwb]
    exact nx _ (mem_snoc hw (piece_em hv hD0 hD1)) (by simp; omega)
   have keep2 : (mx (sumD pre) fr - sumD pre = 0 ∨ x.f2 = 0 ∨ x.f1 < 0) → Ev (fun k => dioramaref10_cut.j1 k l ms ts fr te out (sumD pre) (pre.length : Int) (mx (sumD pre) fr) false (mn (sumD pre + x.f0) te - mx (sumD pre) fr) x.f1 x.f2 x.f3) (if 0 ≤ x.f1 then
     (if (whV (afterQ ms ts x.f1 x.f2 x.f3 (mx (sumD pre) fr - sumD pre))).2 = 0 then cutL ms ts fr te (out ++ [⟨mn (sumD pre + x.f0) te - mx (sumD pre) fr, (whV (afterQ ms ts x.f1 x.f2 x.f3 (mx (sumD pre) fr - sumD pre))).1, x.f2, x.f3⟩]) (sumD pre + x.f0) t
           else ([], (whV (afterQ ms ts x.f1 x.f2 x.f3 (mx (sumD pre) fr - sumD pre))).2))
    else cutL ms ts fr te (out ++ [⟨mn (sumD pre + x.f0) te - mx (sumD pre) fr, x.f1, x.f2, x.f3⟩]) (sumD pre + x.f0) t) := by
    intro h
    refine keep ?_
    by_cases hm : 0 ≤ x.f1
    ·have hw2 : whV (afterQ ms ts x.f1 x.f2 x.f3 (mx (sumD pre) fr - sumD pre)) = (x.f1, 0) := by
      rcases h with h | h | h
      ·rw [h, after_z1, wh_int hm1]
      ·rw [h, after_z2, wh_int hm1]
      ·omega
     rw [if_pos hm, hw2, if_pos rfl]
    ·rw [if_neg hm]
   by_cases hk : mx (sumD pre) fr > sumD pre
   ·refine Ev.congr (fun k => if_pos hk) ?_
    rw [hie]
    simp only [Option.bind_some, beq_iff_eq]
    by_cases hm : x.f1 = -1
    ·exact Ev.congr (fun k => if_pos hm) (keep2 (.inr (.inr (by omega))))
    ·refine Ev.congr (fun k => if_neg hm) ?_
     by_cases hn : x.f2 > 0
     ·rw [decide_eq_true hn, if_pos (show 0 ≤ x.f1 by omega)]
      refine Ev.step (fun k => by rw [dioramaref10_cut.j1]) (Ev.congr (fun k => if_pos rfl) ?_)
      rw [hwa]
      have c0 := hc.m0
      have c1 := hc.m1
      have c2 := hc.t0
      have c3 := hc.t1
      obtain ⟨b1, x1, y1, f1, v1⟩ := ratio_f (mx (sumD pre) fr - sumD pre) ms (by omega) (by omega) (by omega) (by omega)
      obtain ⟨b2, x2, y2, f2, v2⟩ := media_f (mn (sumD pre + x.f0) te - mx (sumD pre) fr) x.f1 x.f2 x.f3 ts hn0 (by omega) he0 (by omega) (by omega) (by omega) c2 c3 v1 (by decide)
      obtain ⟨b3, x3, y3, f3, v3⟩ := ratio_f ts 1 (by omega) (by omega) (by decide) (by decide)
      obtain ⟨b4, x4, y4, f4, v4⟩ := timesR_f v2 v3 (by decide)
      rw [after_media hc] at v4
      have hq := whole_f v4 (by decide) (Rat.not_lt.2 (after_nn hc (by omega) hn0 he0 hA0))
      refine Ev.bind f1 (Ev.bind f2 (Ev.bind f3 (Ev.bind f4 (Ev.bind hq ?_))))
      by_cases hz : (whV (afterQ ms ts x.f1 x.f2 x.f3 (mx (sumD pre) fr - sumD pre))).2 = 0
      ·have r := wh_rng (after_nn hc (by omega) hn0 he0 hA0) hz
       rw [if_pos hz]
       refine Ev.congr (fun k => if_pos hz) (Ev.congr (fun k => if_pos (by omega)) (Ev.congr (fun k => if_pos (by omega)) (Ev.congr (fun k => if_pos (by omega)) ?_)))
       rw [hx, hwb]
       exact nx _ (mem_snoc hw (piece_vd hv hD0 hD1 r.1.1 r.1.2)) (by simp; omega)
      ·rw [if_neg hz]
       exact Ev.congr (fun k => if_neg hz) (Ev.now _)
     ·rw [decide_eq_false hn]
      exact keep2 (.inr (.inl (by omega)))
   ·exact Ev.congr (fun k => if_neg hk) (keep2 (.inl (by omega)))
theorem rcut_f {ms ts fr te : Int} (hc : Ck ms ts) (hf : 0 ≤ fr ∧ fr ≤ 1099511627776) (ht : 0 ≤ te ∧ te ≤ 1099511627776) (l : List Ed) (hV : ∀ x ∈ l, Vd x) (hl : l.length ≤ 1000) (hs : sumD l ≤ 1099511627776) : Ev (fun k => dioramaref10_cut.f k l ms ts fr te) (cutL ms ts fr te [] 0 l) :=
 rcut_l hc hf ht l hV hl hs l [] [] rfl (by simp) (by simp)
theorem cutL_all {ms ts : Int} : ∀ (l out : List Ed) (b : Int), 0 ≤ b → b + sumD l ≤ 1099511627776 → (∀ x ∈ l, Vd x) → cutL ms ts 0 1099511627776 out b l = nrmV ms ts (out ++ l)
 | [], out, b, _, _, _ => by simp [cutL]
 | x :: t, out, b, hb, hs, hV => by
  have hv := hV x (by simp)
  have d0 := hv.d0
  have m1 := hv.m1
  have hst : 0 ≤ sumD t := sumD_nonneg (fun y hy => hV y (by simp [hy]))
  simp only [sumD] at hs
  have e1 : mx b 0 = b := by unfold mx; split <;> omega
  have e2 : mn (b + x.f0) 1099511627776 = b + x.f0 := by unfold mn; split <;> omega
  have ih := cutL_all (ms := ms) (ts := ts) t (out ++ [x]) (b + x.f0) (by omega) (by omega) (fun y hy => hV y (by simp [hy]))
  rw [List.append_assoc, List.singleton_append] at ih
  rw [cutL_cons, e1, e2, if_neg (by omega)]
  have e3 : b + x.f0 - b = x.f0 := by omega
  have e4 : b - b = 0 := by omega
  rw [e3, e4]
  by_cases hm : 0 ≤ x.f1
  ·rw [if_pos hm, after_z1, wh_int m1, if_pos rfl]
   exact ih
  ·rw [if_neg hm]
   exact ih
theorem rCut_f (l : List Ed) (ms ts fr te : Int) : Ev (fun k => dioramaref10_Cut.f k l ms ts fr te) (cutV ms ts fr te l) := by
 unfold cutV
 by_cases h0 : chk l ms ts = 0
 ·obtain ⟨hc, hl, hV, hs⟩ := chk_ok.1 h0
  rw [if_pos h0]
  have h1 := rcheck_f l ms ts
  rw [h0] at h1
  refine Ev.congr (fun k => rfl) (Ev.bind h1 (Ev.congr (fun k => if_pos rfl) ?_))
  by_cases a1 : fr < 0
  ·rw [if_neg (fun h => by have := h.1.1; omega)]
   exact Ev.congr (fun k => if_pos a1) (Ev.now _)
  refine Ev.congr (fun k => if_neg a1) ?_
  by_cases a2 : fr > 1099511627776
  ·rw [if_neg (fun h => by have := h.1.2; omega)]
   exact Ev.congr (fun k => if_pos a2) (Ev.now _)
  refine Ev.congr (fun k => if_neg a2) ?_
  by_cases a3 : te < 0
  ·rw [if_neg (fun h => by have := h.2.1.1; omega)]
   exact Ev.congr (fun k => if_pos a3) (Ev.now _)
  refine Ev.congr (fun k => if_neg a3) ?_
  by_cases a4 : te > 1099511627776
  ·rw [if_neg (fun h => by have := h.2.1.2; omega)]
   exact Ev.congr (fun k => if_pos a4) (Ev.now _)
  refine Ev.congr (fun k => if_neg a4) ?_
  by_cases a5 : te < fr
  ·rw [if_neg (fun h => by have := h.2.2; omega)]
   exact Ev.congr (fun k => if_pos a5) (Ev.now _)
  ·rw [if_pos ⟨⟨by omega, by omega⟩, ⟨by omega, by omega⟩, by omega⟩]
   exact Ev.congr (fun k => if_neg a5) (Ev.bind (rcut_f hc ⟨by omega, by omega⟩ ⟨by omega, by omega⟩ l hV (by omega) hs) (Ev.now _))
 ·rw [if_neg h0]
  refine Ev.congr (fun k => rfl) (Ev.bind (rcheck_f l ms ts) ?_)
  exact Ev.congr (fun k => if_neg h0) (Ev.now _)
end Go.Proofs.Ytpbhepdgamoiaaa.Rct
namespace Go.Proofs.Ytpbhepdgamoiaaa.Jr
open Go.RowKit Go Go.Proofs.YtpbhepdgamoiaaaW.PrintWords Go.Proofs.YtpbhepdgamoiaaaW.PrintLast Go.Proofs.YtpbhepdgamoiaaaW.PrintMore Go.Proofs.Ytpbhepdgamoiaaa.Mn Go.Proofs.Ytpbhepdgamoiaaa.Nd Go.Proofs.Ytpbhepdgamoiaaa.Z Go.Proofs.Ytpbhepdgamoiaaa.Rf Go.Proofs.Ytpbhepdgamoiaaa.Er Go.Proofs.Ytpbhepdgamoiaaa.Ek Go.Proofs.Ytpbhepdgamoiaaa.Et Go.Proofs.Ytpbhepdgamoiaaa.E Go.Proofs.Ytpbhepdgamoiaaa.Pe Go.Proofs.Ytpbhepdgamoiaaa.Pf Go.Proofs.Ytpbhepdgamoiaaa.Qo Go.Proofs.Ytpbhepdgamoiaaa.Qp Go.Proofs.Ytpbhepdgamoiaaa.Ct Go.Proofs.Ytpbhepdgamoiaaa.Jn Go.Proofs.Ytpbhepdgamoiaaa.Rct
set_option linter.unusedVariables false
set_option linter.unusedSimpArgs false
theorem rchk_n (A : Option Addr) (c : Nat) (l : List Ed) (ms ts : Int) (w : World) (hr : Kd.C k77 w A l.length l) (hc : l.length ≤ c) :
  Calls Try.prog 25 #[.slice A l.length c, .int .i64 ms, .int .i64 ts] w (ValP w (.int .i64 (chk l ms ts))) := by
 obtain ⟨k, hk⟩ := (rcheck_f l ms ts).rounds
 exact dioramaref10_Check.calls k A c l ms ts _ w hr hc hk
theorem told_n {ms ts : Int} (hc : Ck ms ts) (A : Option Addr) (c : Nat) (l : List Ed) (hV : ∀ x ∈ l, Vd x) (hl : l.length ≤ 10000) (w : World) (hr : Kd.C k77 w A l.length l) (hcc : l.length ≤ c) :
  Calls Try.prog 58 #[.slice A l.length c, .int .i64 ms, .int .i64 ts] w (TP w (nrmV ms ts l)) := by
 obtain ⟨k, hk⟩ := (told_f hc l hV hl).rounds
 exact dioramaref10_told.calls k A c l ms ts _ _ w hr hcc hk
theorem rcut_n {ms ts fr te : Int} (hc : Ck ms ts) (hf : 0 ≤ fr ∧ fr ≤ 1099511627776) (ht : 0 ≤ te ∧ te ≤ 1099511627776) (A : Option Addr) (c : Nat) (l : List Ed) (hV : ∀ x ∈ l, Vd x) (hl : l.length ≤ 1000) (hs : sumD l ≤ 1099511627776) (w : World) (hr : Kd.C k77 w A l.length l) (hcc : l.length ≤ c) :
  Calls Try.prog 94 #[.slice A l.length c, .int .i64 ms, .int .i64 ts, .int .i64 fr, .int .i64 te] w (TP w (cutL ms ts fr te [] 0 l)) := by
 obtain ⟨k, hk⟩ := (rcut_f hc hf ht l hV hl hs).rounds
 exact dioramaref10_cut.calls k A c l ms ts fr te _ _ w hr hcc hk
set_option maxHeartbeats 8000000 in
set_option maxRecDepth 100000 in
theorem rdelay_n (A0 : Option Addr) (c0 : Nat) (l0 : List Ed) (ms ts y : Int) (w : World) (h0 : Kd.C k77 w A0 l0.length l0) (hc0 : l0.length ≤ c0) :
  Calls Try.prog 41 #[.slice A0 l0.length c0, .int .i64 ms, .int .i64 ts, .int .i64 y] w (TP w (delV ms ts y l0)) := by
 have hu3 := Try.underlying77
 have HG := Aside0.mk (And.intro h0 hc0)
 have HV := Aside0.mk (show delV ms ts y l0 = if chk l0 ms ts = 0 then (if y < -1099511627776 ∨ 1099511627776 < y then ([], 1) else if y ≤ 0 then cutL ms ts (-y) 1099511627776 [] 0 l0 else nrmV ms ts ((⟨y, -1, 1, 1⟩ : Ed) :: l0)) else ([], chk l0 ms ts) from rfl)
 have HK := Aside0.mk (fun h : chk l0 ms ts = 0 => chk_ok.1 h)
 generalize delV ms ts y l0 = V at *
 clear h0 hc0
 go_enter Try.func41, Try.ntmps41
 go_wp2_with fail
 refine (rchk_n A0 c0 l0 ms ts w HG.out.1 HG.out.2).mono ?_
 rintro e w2 ⟨rfl, hb2⟩
 have HB := Aside0.mk hb2
 clear hb2
 by_cases hz : chk l0 ms ts = 0
 case neg =>
  have HV2 := Aside0.mk (show V = ([], chk l0 ms ts) by rw [HV.out, if_neg hz])
  clear HV HK
  generalize chk l0 ms ts = C at *
  go_wp2_with fail
  go_ret2
  rw [HV2.out]
  exact ⟨_, rfl, Kd.R_nil _ _ _ _ _, HB.out⟩
 have HV2 := Aside0.mk (show V = if y < -1099511627776 ∨ 1099511627776 < y then ([], 1) else if y ≤ 0 then cutL ms ts (-y) 1099511627776 [] 0 l0 else nrmV ms ts ((⟨y, -1, 1, 1⟩ : Ed) :: l0) by rw [HV.out, if_pos hz])
 have HK2 := Aside0.mk (HK.out hz)
 rw [hz]
 clear HV HK hz
 by_cases y1 : y < -1099511627776
 ·have HV3 := Aside0.mk (show V = ([], 1) by rw [HV2.out, if_pos (.inl y1)])
  have b1 : decide (y < -1099511627776) = true := decide_eq_true y1
  clear HV2
  go_wp2_with fail
  go_ret2
  rw [HV3.out]
  exact ⟨_, rfl, Kd.R_nil _ _ _ _ _, HB.out⟩
 have b1 : decide (y < -1099511627776) = false := decide_eq_false y1
 by_cases y2 : y > 1099511627776
 ·have HV3 := Aside0.mk (show V = ([], 1) by rw [HV2.out, if_pos (.inr y2)])
  have b2 : decide (y > 1099511627776) = true := decide_eq_true y2
  clear HV2
  go_wp2_with fail
  go_ret2
  rw [HV3.out]
  exact ⟨_, rfl, Kd.R_nil _ _ _ _ _, HB.out⟩
 have b2 : decide (y > 1099511627776) = false := decide_eq_false y2
 have hwn : wrap64 (-y) = -y := w64 (by omega) (by omega)
 by_cases y3 : y < 0
 ·have HV3 := Aside0.mk (show V = cutL ms ts (-y) 1099511627776 [] 0 l0 by rw [HV2.out, if_neg (by omega), if_pos (by omega)])
  have b3 : decide (y < 0) = true := decide_eq_true y3
  have HY := Aside0.mk (show 0 ≤ -y ∧ -y ≤ 1099511627776 by omega)
  clear HV2
  go_wp2_with fail
  refine (rcut_n HK2.out.1 HY.out ⟨by decide, by decide⟩ A0 c0 l0 HK2.out.2.2.1 (by have := HK2.out.2.1; omega) HK2.out.2.2.2 w2 (Kd.C_below HG.out.1 HB.out) HG.out.2).mono ?_
  rintro e w3 ⟨v, rfl, hr3, hb3⟩
  have H3 := Aside0.mk (And.intro (Kd.R_lower hr3 HB.out.size) (HB.out.trans (hb3.mono HB.out.size)))
  obtain ⟨A3, c3, rfl⟩ := Kd.R_slice hr3
  clear hr3 hb3
  rw [← HV3.out] at H3 ⊢
  go_wp2_with fail
  go_ret2
  exact ⟨_, rfl, H3.out.1, H3.out.2⟩
 have b3 : decide (y < 0) = false := decide_eq_false y3
 by_cases y4 : y > 0
 ·have HV3 := Aside0.mk (show V = nrmV ms ts ((⟨y, -1, 1, 1⟩ : Ed) :: l0) by rw [HV2.out, if_neg (by omega), if_neg (by omega)])
  have b4 : decide (y > 0) = true := decide_eq_true y4
  have HQ := Aside0.mk (show Ck ms ts ∧ (∀ x ∈ (⟨y, -1, 1, 1⟩ : Ed) :: l0, Vd x) ∧ l0.length ≤ 20 by
   refine ⟨HK2.out.1, fun x hx => ?_, HK2.out.2.1⟩
   rcases List.mem_cons.1 hx with rfl | hx
   ·exact ⟨by simp only; omega, by simp only; omega, by simp only; omega, by simp only; omega, by simp only; omega, by simp only; omega, by simp only; omega, by simp only; omega, fun _ => ⟨rfl, rfl⟩⟩
   ·exact HK2.out.2.2.1 x hx)
  clear HV2 HK2
  go_wp2_with (first
   | ((with_reducible refine gate_builtin (b := .append) (xs := #[.const (.slice none 0 0), .tmp 35]) rfl ?_); at_builtin; refine Kd.R_append_rows k77 (w0 := w) w.heap.size rfl (.const (.slice none 0 0)) (.tmp 35) 22 77 (.agg #[(.int .i64 0), (.int .i64 0), (.int .i64 0), (.int .i64 0)]) 32 rfl Try.underlying22 info77 rfl (by decide) (by omega) (.slice none 0 0) [] l0 _ _ _ (fun _ => True) (fun _ => False) rfl rfl (Kd.R_nil _ _ _ _ _) (Kd.C_below HG.out.1 HB.out) (fun _ _ h => h) (fun _ h => h.elim) (fun _ _ => trivial) HB.out HB.out.size (by have := HQ.out.2.2; simp only [List.length_nil]; omega) ?_; intro v1 w5 ho hb hg hat; rw [List.nil_append] at ho; obtain ⟨A5, c5, e5⟩ := Kd.R_slice ho; subst e5; have HO5 := Aside0.mk ho; have HB5 := Aside0.mk hb; clear ho hb hg hat)
   | ((with_reducible refine gate_dst (N := 41) rfl ?_); refine Kd.R_lit k77 _ 77 ?hg (N := 41) ?hd (xs := ([(⟨y, -1, 1, 1⟩ : Ed)] : List Ed)) (inner := [.int .i64 y, .int .i64 (-1), .int .i64 1, .int .i64 1]) (ok := fun _ => True) (okp := fun _ => True) ?hr ?hp (fun _ hk => hk) trivial (Below.refl _ _) (Nat.le_refl _) (by simp) ?_; (case hd => rfl); (case hg => rfl); (case hr => first | (go_simp; done) | (go_simp; rfl)); (case hp => exact (Reps.c4 (show Kd.M k77 _ _ _ (⟨y, -1, 1, 1⟩ : Ed) [.int .i64 y, .int .i64 (-1), .int .i64 1, .int .i64 1] from (k77_mkM _ _ _ (⟨y, -1, 1, 1⟩ : Ed))) (Reps.none _ _))); intro v6 w6 ho hb hg_ hnew_; clear hg_ hnew_; have HO6 := Aside0.mk (Kd.R_lower ho HB5.out.size); have HC6 := Aside0.mk (Kd.C_below (Kd.R_reads' HO5.out).2.2 hb); have HB6 := Aside0.mk (HB5.out.trans (hb.mono HB5.out.size)); clear ho hb)
   | ((with_reducible refine gate_builtin (b := .append) (xs := #[.tmp 41, .tmp 42]) rfl ?_); at_builtin; refine Kd.R_append_rows k77 (w0 := w) w.heap.size rfl (.tmp 41) (.tmp 42) 22 77 (.agg #[(.int .i64 0), (.int .i64 0), (.int .i64 0), (.int .i64 0)]) 32 rfl Try.underlying22 info77 rfl (by decide) (by omega) v6 [(⟨y, -1, 1, 1⟩ : Ed)] l0 _ _ _ (fun _ => True) (fun _ => False) rfl rfl HO6.out HC6.out (fun _ _ h => h) (fun _ h => h.elim) (fun _ _ => trivial) HB6.out HB6.out.size (by have := HQ.out.2.2; simp only [List.length_cons, List.length_nil]; omega) ?_; intro v7 w7 ho hb hg hat; rw [List.singleton_append] at ho; have HQ2 := Aside0.mk (And.intro HQ.out.1 (And.intro HQ.out.2.1 (show ((⟨y, -1, 1, 1⟩ : Ed) :: l0).length ≤ 10000 by have := HQ.out.2.2; simp only [List.length_cons]; omega))); clear HQ; generalize hL : (⟨y, -1, 1, 1⟩ : Ed) :: l0 = L at *; obtain ⟨A7, c7, e7⟩ := Kd.R_slice ho; subst e7; have H7 := Aside0.mk (And.intro ho hb); clear ho hb hg hat hL))
  refine (told_n HQ2.out.1 A7 c7 L HQ2.out.2.1 HQ2.out.2.2 w7 (Kd.R_reads' H7.out.1).2.2 (Kd.R_reads' H7.out.1).2.1).mono ?_
  rintro e w8 ⟨v8, rfl, hr8, hb8⟩
  have H8 := Aside0.mk (And.intro (Kd.R_lower hr8 H7.out.2.size) (H7.out.2.trans (hb8.mono H7.out.2.size)))
  obtain ⟨A8, c8, rfl⟩ := Kd.R_slice hr8
  clear hr8 hb8
  rw [← HV3.out] at H8 ⊢
  go_wp2_with fail
  go_ret2
  exact ⟨_, rfl, H8.out.1, H8.out.2⟩
 ·have HV3 := Aside0.mk (show V = nrmV ms ts l0 by
   rw [HV2.out, if_neg (by omega), if_pos (by omega), show -y = 0 by omega, cutL_all l0 [] 0 (by omega) (by have := HK2.out.2.2.2; omega) HK2.out.2.2.1, List.nil_append])
  have b4 : decide (y > 0) = false := decide_eq_false y4
  have HQ := Aside0.mk (show Ck ms ts ∧ (∀ x ∈ l0, Vd x) ∧ l0.length ≤ 20 from ⟨HK2.out.1, HK2.out.2.2.1, HK2.out.2.1⟩)
  clear HV2 HK2
  go_wp2_with (first
   | ((with_reducible refine gate_builtin (b := .append) (xs := #[.const (.slice none 0 0), .tmp 35]) rfl ?_); at_builtin; refine Kd.R_append_rows k77 (w0 := w) w.heap.size rfl (.const (.slice none 0 0)) (.tmp 35) 22 77 (.agg #[(.int .i64 0), (.int .i64 0), (.int .i64 0), (.int .i64 0)]) 32 rfl Try.underlying22 info77 rfl (by decide) (by omega) (.slice none 0 0) [] l0 _ _ _ (fun _ => True) (fun _ => False) rfl rfl (Kd.R_nil _ _ _ _ _) (Kd.C_below HG.out.1 HB.out) (fun _ _ h => h) (fun _ h => h.elim) (fun _ _ => trivial) HB.out HB.out.size (by have := HQ.out.2.2; simp only [List.length_nil]; omega) ?_; intro v1 w5 ho hb hg hat; rw [List.nil_append] at ho; obtain ⟨A5, c5, e5⟩ := Kd.R_slice ho; subst e5; have H7 := Aside0.mk (And.intro ho hb); clear ho hb hg hat))
  refine (told_n HQ.out.1 A5 c5 l0 HQ.out.2.1 (by have := HQ.out.2.2; omega) w5 (Kd.R_reads' H7.out.1).2.2 (Kd.R_reads' H7.out.1).2.1).mono ?_
  rintro e w8 ⟨v8, rfl, hr8, hb8⟩
  have H8 := Aside0.mk (And.intro (Kd.R_lower hr8 H7.out.2.size) (H7.out.2.trans (hb8.mono H7.out.2.size)))
  obtain ⟨A8, c8, rfl⟩ := Kd.R_slice hr8
  clear hr8 hb8
  rw [← HV3.out] at H8 ⊢
  go_wp2_with fail
  go_ret2
  exact ⟨_, rfl, H8.out.1, H8.out.2⟩
end Go.Proofs.Ytpbhepdgamoiaaa.Jr
namespace Go.Proofs.Ytpbhepdgamoiaaa.E
open Go.RowKit Go Go.Proofs.YtpbhepdgamoiaaaW.PrintWords Go.Proofs.YtpbhepdgamoiaaaW.PrintLast Go.Proofs.YtpbhepdgamoiaaaW.PrintMore Go.Proofs.Ytpbhepdgamoiaaa.Pe Go.Proofs.Ytpbhepdgamoiaaa.Jn Go.Proofs.Ytpbhepdgamoiaaa.Jr
def dioramaref10_Delay.f (l0 : List (S77)) (a1 : Int) (a2 : Int) (a3 : Int) : Option ((List (S77)) × Int) := if in64 a3 = true then some (delV a1 a2 a3 l0) else none
theorem dioramaref10_Delay.calls (A0 : Option Addr) (c0 : Nat) (l0 : List (S77)) (a1 : Int) (a2 : Int) (a3 : Int) (r1 : List (S77)) (r2 : Int) (w : World) (hr0 : Kd.C k77 w A0 l0.length l0) (hc0 : l0.length ≤ c0) (h : dioramaref10_Delay.f l0 a1 a2 a3 = some (r1, r2)) :
  Calls Try.prog 41 #[.slice A0 l0.length c0, .int .i64 a1, .int .i64 a2, .int .i64 a3] w fun e w' => ∃ v0_ : Value, e = .returned (.tuple #[v0_, .int .i64 r2]) ∧ Kd.R k77 77 w' w.heap.size (fun _ => True) v0_ r1 ∧ Below w.heap.size w w' := by
 unfold dioramaref10_Delay.f at h
 split at h
 ·rename_i hi
  have hV : delV a1 a2 a3 l0 = (r1, r2) := Option.some.inj h
  have := rdelay_n A0 c0 l0 a1 a2 a3 w hr0 hc0
  rw [hV] at this
  exact this
 ·cases h
end Go.Proofs.Ytpbhepdgamoiaaa.E
namespace Go.Proofs.Ytpbhepdgamoiaaa.E
open Go.Proofs.Ytpbhepdgamoiaaa.Z Go.RowKit Go.Proofs.YtpbhepdgamoiaaaW.PrintWords Go.Proofs.YtpbhepdgamoiaaaW.PrintLast Go.Proofs.YtpbhepdgamoiaaaW.PrintMore
attribute [local go_sem] max2_int min2_int max_two min_two max_three min_three max_four min_four
set_option linter.unusedVariables false
set_option linter.unusedSimpArgs false
def dioramalaw10_EditCuts.f (k : Nat) (l0_0 : List (S77)) (a0_1 : Int) (a0_2 : Int) (a1 : Int) (a2 : Int) : Option (Bool) := (dioramalaw10_many.f l0_0).bind fun t1024 => (if t1024 = true then ((dioramalaw10_awake.f k).bind fun t1025 => (some t1025)) else ((edit_Cut.f k l0_0 a0_1 a0_2 a1 a2).bind fun bt1026 => ((dioramaref10_Cut.f k l0_0 a0_1 a0_2 a1 a2).bind fun bt1030 => ((edit_Delay.f l0_0 a0_1 a0_2 a1).bind fun bt1034 => ((dioramaref10_Delay.f l0_0 a0_1 a0_2 a1).bind fun bt1038 => ((dioramalaw10_eq.f k bt1026.1 bt1026.2 bt1030.1 bt1030.2).bind fun t1042 => (if t1042 = true then ((dioramalaw10_eq.f k bt1034.1 bt1034.2 bt1038.1 bt1038.2).bind fun t1043 => (if t1043 = true then ((dioramalaw10_awake.f k).bind fun t1044 => (some t1044)) else (some false))) else (some false))))))))
set_option maxHeartbeats 8000000 in
set_option maxRecDepth 100000 in
theorem dioramalaw10_EditCuts.calls (k : Nat) (A0_0 : Option Addr) (c0_0 : Nat) (l0_0 : List (S77)) (a0_1 : Int) (a0_2 : Int) (a1 : Int) (a2 : Int) (r : Bool) (w : World) (hr0_0 : Kd.C k77 w A0_0 l0_0.length l0_0) (hc0_0 : l0_0.length ≤ c0_0) (h : dioramalaw10_EditCuts.f k l0_0 a0_1 a0_2 a1 a2 = some r) :
  Calls Try.prog 10 #[.agg #[.slice A0_0 l0_0.length c0_0, .int .i64 a0_1, .int .i64 a0_2], .int .i64 a1, .int .i64 a2] w fun e w' => e = .returned (.bool r) ∧ Below w.heap.size w w' := by
 have hu24 := Try.underlying24; have HR0_0 := Aside0.mk hr0_0; have HC0_0 := Aside0.mk hc0_0; clear hr0_0 hc0_0; have HB := Aside0.mk (Below.refl w.heap.size w); have H : ((dioramalaw10_many.f l0_0).bind fun t1024 => (if t1024 = true then ((dioramalaw10_awake.f k).bind fun t1025 => (some t1025)) else ((edit_Cut.f k l0_0 a0_1 a0_2 a1 a2).bind fun bt1026 => ((dioramaref10_Cut.f k l0_0 a0_1 a0_2 a1 a2).bind fun bt1030 => ((edit_Delay.f l0_0 a0_1 a0_2 a1).bind fun bt1034 => ((dioramaref10_Delay.f l0_0 a0_1 a0_2 a1).bind fun bt1038 => ((dioramalaw10_eq.f k bt1026.1 bt1026.2 bt1030.1 bt1030.2).bind fun t1042 => (if t1042 = true then ((dioramalaw10_eq.f k bt1034.1 bt1034.2 bt1038.1 bt1038.2).bind fun t1043 => (if t1043 = true then ((dioramalaw10_awake.f k).bind fun t1044 => (some t1044)) else (some false))) else (some false))))))))) = some r := h
 clear h; obtain ⟨t1024, A4, H⟩ := ob H
 by_cases c5 : t1024 = true
 ·subst c5; rw [if_pos rfl] at H; obtain ⟨t1025, A6, H⟩ := ob H; obtain rfl := Option.some.inj H
  go_enter Try.func10, Try.ntmps10
  go_wp2_with (first | ((with_reducible refine gate_dst (N := 3) rfl ?_); refine zB 3 24 #[.slice A0_0 l0_0.length c0_0, .int .i64 a0_1, .int .i64 a0_2] ?_; intro gb1023 hg w7 hbox hb; have BK1023 := Aside0.mk hbox; have GW1023 := gz hg; have GE1023 := gz hg; replace HB := bp hb; clear hb hbox hg; obtain ⟨hcz8_0, hcz8_1, hcz8_2, hfz8_0, hfz8_1, hfz8_2⟩ := xc3 BK1023) | ((with_reducible refine gate_callee (f := 19) rfl ?_); refine zC 17 Try.func19 #[.slice A0_0 l0_0.length c0_0] ?_; (with_reducible refine (dioramalaw10_many.calls _ _ l0_0 true _ ?side1 ?side2 A4.out).mono ?_); (case side1 => exact cz HR0_0); (case side2 => exact HC0_0.out); rintro e w' ⟨rfl, ⟨nd, rfl⟩⟩; refine ⟨_, rfl, ?_⟩) | ((with_reducible refine gate_callee (f := 20) rfl ?_); refine zC 18 Try.func20 #[] ?_; (with_reducible refine (dioramalaw10_awake.calls k  t1025 _ A6.out).mono ?_); rintro e w9 ⟨rfl, hb⟩; refine ⟨_, rfl, ?_⟩; replace BK1023 := kb BK1023 hb; replace HB := bp hb; clear hb))
  go_ret
  exact ⟨ez, bz⟩
 ·obtain rfl := bf c5; rw [if_neg (show ¬ (false = true) by decide)] at H; obtain ⟨⟨t1026, t1027⟩, A10, H⟩ := ob H
  (try dsimp only at H)
  obtain ⟨⟨t1030, t1031⟩, A11, H⟩ := ob H
  (try dsimp only at H)
  obtain ⟨⟨t1034, t1035⟩, A12, H⟩ := ob H
  (try dsimp only at H)
  obtain ⟨⟨t1038, t1039⟩, A13, H⟩ := ob H
  (try dsimp only at H)
  obtain ⟨t1042, A14, H⟩ := ob H
  by_cases c15 : t1042 = true
  ·subst c15; rw [if_pos rfl] at H; obtain ⟨t1043, A16, H⟩ := ob H
   by_cases c17 : t1043 = true
   ·subst c17; rw [if_pos rfl] at H; obtain ⟨t1044, A18, H⟩ := ob H; obtain rfl := Option.some.inj H
    go_enter Try.func10, Try.ntmps10
    go_wp2_with (first | ((with_reducible refine gate_dst (N := 3) rfl ?_); refine zB 3 24 #[.slice A0_0 l0_0.length c0_0, .int .i64 a0_1, .int .i64 a0_2] ?_; intro gb1023 hg w19 hbox hb; have BK1023 := Aside0.mk hbox; have GW1023 := gz hg; have GE1023 := gz hg; replace HB := bp hb; clear hb hbox hg; obtain ⟨hcz20_0, hcz20_1, hcz20_2, hfz20_0, hfz20_1, hfz20_2⟩ := xc3 BK1023) | ((with_reducible refine gate_callee (f := 19) rfl ?_); refine zC 17 Try.func19 #[.slice A0_0 l0_0.length c0_0] ?_; (with_reducible refine (dioramalaw10_many.calls _ _ l0_0 false _ ?side1 ?side2 A4.out).mono ?_); (case side1 => exact cz HR0_0); (case side2 => exact HC0_0.out); rintro e w' ⟨rfl, ⟨nd, rfl⟩⟩; refine ⟨_, rfl, ?_⟩) | ((with_reducible refine gate_callee (f := 38) rfl ?_); refine zC 28 Try.func38 #[.slice A0_0 l0_0.length c0_0, .int .i64 a0_1, .int .i64 a0_2, .int .i64 a1, .int .i64 a2] ?_; (with_reducible refine (edit_Cut.calls k _ _ l0_0 a0_1 a0_2 a1 a2 t1026 t1027 _ ?side1 ?side2 A10.out).mono ?_); (case side1 => repeat (first | exact (Kd.C_below HR0_0.out bz) | (with_reducible refine Kd.C_alloc ?_ _) | (with_reducible refine Kd.C_drewN ?_ _) | (with_reducible refine Kd.C_drew ?_))); (case side2 => exact HC0_0.out); rintro e w21 ⟨v1028, rfl, ho0, hb⟩; refine ⟨_, rfl, ?_⟩; have HO1029 := Aside0.mk (Kd.R_lower ho0 sz); replace BK1023 := kb BK1023 hb; replace HB := bp hb; clear hb ho0; obtain ⟨hcz22_0, hcz22_1, hcz22_2, hfz22_0, hfz22_1, hfz22_2⟩ := xc3 BK1023) | ((with_reducible refine gate_callee (f := 39) rfl ?_); refine zC 40 Try.func39 #[.slice A0_0 l0_0.length c0_0, .int .i64 a0_1, .int .i64 a0_2, .int .i64 a1, .int .i64 a2] ?_; (with_reducible refine (dioramaref10_Cut.calls k _ _ l0_0 a0_1 a0_2 a1 a2 t1030 t1031 _ ?side1 ?side2 A11.out).mono ?_); (case side1 => exact cz HR0_0); (case side2 => exact HC0_0.out); rintro e w23 ⟨v1032, rfl, ho0, hb⟩; refine ⟨_, rfl, ?_⟩; have HO1033 := Aside0.mk (Kd.R_lower (Kd.R_new' ho0 (Kd.R_lt (rz HO1029))) sz); replace HO1029 := Aside0.mk (Kd.R_elder' (rz HO1029) (Kd.R_base ho0) hb); replace BK1023 := kb BK1023 hb; replace HB := bp hb; clear hb ho0; obtain ⟨hcz24_0, hcz24_1, hcz24_2, hfz24_0, hfz24_1, hfz24_2⟩ := xc3 BK1023) | ((with_reducible refine gate_callee (f := 40) rfl ?_); refine zC 51 Try.func40 #[.slice A0_0 l0_0.length c0_0, .int .i64 a0_1, .int .i64 a0_2, .int .i64 a1] ?_; (with_reducible refine (edit_Delay.calls _ _ l0_0 a0_1 a0_2 a1 t1034 t1035 _ ?side1 ?side2 A12.out).mono ?_); (case side1 => exact cz HR0_0); (case side2 => exact HC0_0.out); rintro e w25 ⟨v1036, rfl, ho0, hb⟩; refine ⟨_, rfl, ?_⟩; have HO1037 := Aside0.mk (Kd.R_lower (Kd.R_new' (Kd.R_new' ho0 (Kd.R_lt (rz HO1029))) (Kd.R_lt (rz HO1033))) sz); replace HO1029 := Aside0.mk (Kd.R_elder' (rz HO1029) (Kd.R_base ho0) hb); replace HO1033 := Aside0.mk (Kd.R_elder' (rz HO1033) (Kd.R_base ho0) hb); replace BK1023 := kb BK1023 hb; replace HB := bp hb; clear hb ho0; obtain ⟨hcz26_0, hcz26_1, hcz26_2, hfz26_0, hfz26_1, hfz26_2⟩ := xc3 BK1023) | ((with_reducible refine gate_callee (f := 41) rfl ?_); refine zC 62 Try.func41 #[.slice A0_0 l0_0.length c0_0, .int .i64 a0_1, .int .i64 a0_2, .int .i64 a1] ?_; (with_reducible refine (dioramaref10_Delay.calls _ _ l0_0 a0_1 a0_2 a1 t1038 t1039 _ ?side1 ?side2 A13.out).mono ?_); (case side1 => exact cz HR0_0); (case side2 => exact HC0_0.out); rintro e w27 ⟨v1040, rfl, ho0, hb⟩; refine ⟨_, rfl, ?_⟩; have HO1041 := Aside0.mk (Kd.R_lower (Kd.R_new' (Kd.R_new' (Kd.R_new' ho0 (Kd.R_lt (rz HO1029))) (Kd.R_lt (rz HO1033))) (Kd.R_lt (rz HO1037))) sz); replace HO1029 := Aside0.mk (Kd.R_elder' (rz HO1029) (Kd.R_base ho0) hb); replace HO1033 := Aside0.mk (Kd.R_elder' (rz HO1033) (Kd.R_base ho0) hb); replace HO1037 := Aside0.mk (Kd.R_elder' (rz HO1037) (Kd.R_base ho0) hb); replace BK1023 := kb BK1023 hb; replace HB := bp hb; clear hb ho0; obtain ⟨Ao28, co28, eo28⟩ := Kd.R_slice HO1029.out; subst eo28; obtain ⟨Ao29, co29, eo29⟩ := Kd.R_slice HO1033.out; subst eo29) | ((with_reducible refine gate_callee (f := 23) rfl ?_); refine zC 69 Try.func23 #[.slice Ao28 t1026.length co28, .int .i64 t1027, .slice Ao29 t1030.length co29, .int .i64 t1031] ?_; (with_reducible refine (dioramalaw10_eq.calls k _ _ t1026 t1027 _ _ t1030 t1031 true _ ?side1 ?side2 ?side3 ?side4 A14.out).mono ?_); (case side1 => exact cr HO1029); (case side2 => exact (Kd.R_reads' HO1029.out).2.1); (case side3 => exact cr HO1033); (case side4 => exact (Kd.R_reads' HO1033.out).2.1); rintro e w' ⟨rfl, ⟨nd, rfl⟩⟩; refine ⟨_, rfl, ?_⟩; obtain ⟨Ao30, co30, eo30⟩ := Kd.R_slice HO1037.out; subst eo30; obtain ⟨Ao31, co31, eo31⟩ := Kd.R_slice HO1041.out; subst eo31) | (go_at_call 23; (with_reducible refine (dioramalaw10_eq.calls k _ _ t1034 t1035 _ _ t1038 t1039 true _ ?side1 ?side2 ?side3 ?side4 A16.out).mono ?_); (case side1 => exact cr HO1037); (case side2 => exact (Kd.R_reads' HO1037.out).2.1); (case side3 => exact cr HO1041); (case side4 => exact (Kd.R_reads' HO1041.out).2.1); rintro e w' ⟨rfl, ⟨nd, rfl⟩⟩) | (go_at_call 20; (with_reducible refine (dioramalaw10_awake.calls k  t1044 _ A18.out).mono ?_); rintro e w32 ⟨rfl, hb⟩; replace HO1029 := Aside0.mk (Kd.R_below (rz HO1029) hb); replace HO1033 := Aside0.mk (Kd.R_below (rz HO1033) hb); replace HO1037 := Aside0.mk (Kd.R_below (rz HO1037) hb); replace HO1041 := Aside0.mk (Kd.R_below (rz HO1041) hb); replace BK1023 := kb BK1023 hb; replace HB := bp hb; clear hb))
    go_ret
    exact ⟨ez, bz⟩
   ·obtain rfl := bf c17; rw [if_neg (show ¬ (false = true) by decide)] at H; obtain rfl := Option.some.inj H
    go_enter Try.func10, Try.ntmps10
    go_wp2_with (first | ((with_reducible refine gate_dst (N := 3) rfl ?_); refine zB 3 24 #[.slice A0_0 l0_0.length c0_0, .int .i64 a0_1, .int .i64 a0_2] ?_; intro gb1023 hg w33 hbox hb; have BK1023 := Aside0.mk hbox; have GW1023 := gz hg; have GE1023 := gz hg; replace HB := bp hb; clear hb hbox hg; obtain ⟨hcz34_0, hcz34_1, hcz34_2, hfz34_0, hfz34_1, hfz34_2⟩ := xc3 BK1023) | ((with_reducible refine gate_callee (f := 19) rfl ?_); refine zC 17 Try.func19 #[.slice A0_0 l0_0.length c0_0] ?_; (with_reducible refine (dioramalaw10_many.calls _ _ l0_0 false _ ?side1 ?side2 A4.out).mono ?_); (case side1 => exact cz HR0_0); (case side2 => exact HC0_0.out); rintro e w' ⟨rfl, ⟨nd, rfl⟩⟩; refine ⟨_, rfl, ?_⟩) | ((with_reducible refine gate_callee (f := 38) rfl ?_); refine zC 28 Try.func38 #[.slice A0_0 l0_0.length c0_0, .int .i64 a0_1, .int .i64 a0_2, .int .i64 a1, .int .i64 a2] ?_; (with_reducible refine (edit_Cut.calls k _ _ l0_0 a0_1 a0_2 a1 a2 t1026 t1027 _ ?side1 ?side2 A10.out).mono ?_); (case side1 => repeat (first | exact (Kd.C_below HR0_0.out bz) | (with_reducible refine Kd.C_alloc ?_ _) | (with_reducible refine Kd.C_drewN ?_ _) | (with_reducible refine Kd.C_drew ?_))); (case side2 => exact HC0_0.out); rintro e w35 ⟨v1028, rfl, ho0, hb⟩; refine ⟨_, rfl, ?_⟩; have HO1029 := Aside0.mk (Kd.R_lower ho0 sz); replace BK1023 := kb BK1023 hb; replace HB := bp hb; clear hb ho0; obtain ⟨hcz36_0, hcz36_1, hcz36_2, hfz36_0, hfz36_1, hfz36_2⟩ := xc3 BK1023) | ((with_reducible refine gate_callee (f := 39) rfl ?_); refine zC 40 Try.func39 #[.slice A0_0 l0_0.length c0_0, .int .i64 a0_1, .int .i64 a0_2, .int .i64 a1, .int .i64 a2] ?_; (with_reducible refine (dioramaref10_Cut.calls k _ _ l0_0 a0_1 a0_2 a1 a2 t1030 t1031 _ ?side1 ?side2 A11.out).mono ?_); (case side1 => exact cz HR0_0); (case side2 => exact HC0_0.out); rintro e w37 ⟨v1032, rfl, ho0, hb⟩; refine ⟨_, rfl, ?_⟩; have HO1033 := Aside0.mk (Kd.R_lower (Kd.R_new' ho0 (Kd.R_lt (rz HO1029))) sz); replace HO1029 := Aside0.mk (Kd.R_elder' (rz HO1029) (Kd.R_base ho0) hb); replace BK1023 := kb BK1023 hb; replace HB := bp hb; clear hb ho0; obtain ⟨hcz38_0, hcz38_1, hcz38_2, hfz38_0, hfz38_1, hfz38_2⟩ := xc3 BK1023) | ((with_reducible refine gate_callee (f := 40) rfl ?_); refine zC 51 Try.func40 #[.slice A0_0 l0_0.length c0_0, .int .i64 a0_1, .int .i64 a0_2, .int .i64 a1] ?_; (with_reducible refine (edit_Delay.calls _ _ l0_0 a0_1 a0_2 a1 t1034 t1035 _ ?side1 ?side2 A12.out).mono ?_); (case side1 => exact cz HR0_0); (case side2 => exact HC0_0.out); rintro e w39 ⟨v1036, rfl, ho0, hb⟩; refine ⟨_, rfl, ?_⟩; have HO1037 := Aside0.mk (Kd.R_lower (Kd.R_new' (Kd.R_new' ho0 (Kd.R_lt (rz HO1029))) (Kd.R_lt (rz HO1033))) sz); replace HO1029 := Aside0.mk (Kd.R_elder' (rz HO1029) (Kd.R_base ho0) hb); replace HO1033 := Aside0.mk (Kd.R_elder' (rz HO1033) (Kd.R_base ho0) hb); replace BK1023 := kb BK1023 hb; replace HB := bp hb; clear hb ho0; obtain ⟨hcz40_0, hcz40_1, hcz40_2, hfz40_0, hfz40_1, hfz40_2⟩ := xc3 BK1023) | ((with_reducible refine gate_callee (f := 41) rfl ?_); refine zC 62 Try.func41 #[.slice A0_0 l0_0.length c0_0, .int .i64 a0_1, .int .i64 a0_2, .int .i64 a1] ?_; (with_reducible refine (dioramaref10_Delay.calls _ _ l0_0 a0_1 a0_2 a1 t1038 t1039 _ ?side1 ?side2 A13.out).mono ?_); (case side1 => exact cz HR0_0); (case side2 => exact HC0_0.out); rintro e w41 ⟨v1040, rfl, ho0, hb⟩; refine ⟨_, rfl, ?_⟩; have HO1041 := Aside0.mk (Kd.R_lower (Kd.R_new' (Kd.R_new' (Kd.R_new' ho0 (Kd.R_lt (rz HO1029))) (Kd.R_lt (rz HO1033))) (Kd.R_lt (rz HO1037))) sz); replace HO1029 := Aside0.mk (Kd.R_elder' (rz HO1029) (Kd.R_base ho0) hb); replace HO1033 := Aside0.mk (Kd.R_elder' (rz HO1033) (Kd.R_base ho0) hb); replace HO1037 := Aside0.mk (Kd.R_elder' (rz HO1037) (Kd.R_base ho0) hb); replace BK1023 := kb BK1023 hb; replace HB := bp hb; clear hb ho0; obtain ⟨Ao42, co42, eo42⟩ := Kd.R_slice HO1029.out; subst eo42; obtain ⟨Ao43, co43, eo43⟩ := Kd.R_slice HO1033.out; subst eo43) | ((with_reducible refine gate_callee (f := 23) rfl ?_); refine zC 69 Try.func23 #[.slice Ao42 t1026.length co42, .int .i64 t1027, .slice Ao43 t1030.length co43, .int .i64 t1031] ?_; (with_reducible refine (dioramalaw10_eq.calls k _ _ t1026 t1027 _ _ t1030 t1031 true _ ?side1 ?side2 ?side3 ?side4 A14.out).mono ?_); (case side1 => exact cr HO1029); (case side2 => exact (Kd.R_reads' HO1029.out).2.1); (case side3 => exact cr HO1033); (case side4 => exact (Kd.R_reads' HO1033.out).2.1); rintro e w' ⟨rfl, ⟨nd, rfl⟩⟩; refine ⟨_, rfl, ?_⟩; obtain ⟨Ao44, co44, eo44⟩ := Kd.R_slice HO1037.out; subst eo44; obtain ⟨Ao45, co45, eo45⟩ := Kd.R_slice HO1041.out; subst eo45) | (go_at_call 23; (with_reducible refine (dioramalaw10_eq.calls k _ _ t1034 t1035 _ _ t1038 t1039 false _ ?side1 ?side2 ?side3 ?side4 A16.out).mono ?_); (case side1 => exact cr HO1037); (case side2 => exact (Kd.R_reads' HO1037.out).2.1); (case side3 => exact cr HO1041); (case side4 => exact (Kd.R_reads' HO1041.out).2.1); rintro e w' ⟨rfl, ⟨nd, rfl⟩⟩))
    go_ret
    exact ⟨ez, bz⟩
  ·obtain rfl := bf c15; rw [if_neg (show ¬ (false = true) by decide)] at H; obtain rfl := Option.some.inj H
   go_enter Try.func10, Try.ntmps10
   go_wp2_with (first | ((with_reducible refine gate_dst (N := 3) rfl ?_); refine zB 3 24 #[.slice A0_0 l0_0.length c0_0, .int .i64 a0_1, .int .i64 a0_2] ?_; intro gb1023 hg w46 hbox hb; have BK1023 := Aside0.mk hbox; have GW1023 := gz hg; have GE1023 := gz hg; replace HB := bp hb; clear hb hbox hg; obtain ⟨hcz47_0, hcz47_1, hcz47_2, hfz47_0, hfz47_1, hfz47_2⟩ := xc3 BK1023) | ((with_reducible refine gate_callee (f := 19) rfl ?_); refine zC 17 Try.func19 #[.slice A0_0 l0_0.length c0_0] ?_; (with_reducible refine (dioramalaw10_many.calls _ _ l0_0 false _ ?side1 ?side2 A4.out).mono ?_); (case side1 => exact cz HR0_0); (case side2 => exact HC0_0.out); rintro e w' ⟨rfl, ⟨nd, rfl⟩⟩; refine ⟨_, rfl, ?_⟩) | ((with_reducible refine gate_callee (f := 38) rfl ?_); refine zC 28 Try.func38 #[.slice A0_0 l0_0.length c0_0, .int .i64 a0_1, .int .i64 a0_2, .int .i64 a1, .int .i64 a2] ?_; (with_reducible refine (edit_Cut.calls k _ _ l0_0 a0_1 a0_2 a1 a2 t1026 t1027 _ ?side1 ?side2 A10.out).mono ?_); (case side1 => repeat (first | exact (Kd.C_below HR0_0.out bz) | (with_reducible refine Kd.C_alloc ?_ _) | (with_reducible refine Kd.C_drewN ?_ _) | (with_reducible refine Kd.C_drew ?_))); (case side2 => exact HC0_0.out); rintro e w48 ⟨v1028, rfl, ho0, hb⟩; refine ⟨_, rfl, ?_⟩; have HO1029 := Aside0.mk (Kd.R_lower ho0 sz); replace BK1023 := kb BK1023 hb; replace HB := bp hb; clear hb ho0; obtain ⟨hcz49_0, hcz49_1, hcz49_2, hfz49_0, hfz49_1, hfz49_2⟩ := xc3 BK1023) | ((with_reducible refine gate_callee (f := 39) rfl ?_); refine zC 40 Try.func39 #[.slice A0_0 l0_0.length c0_0, .int .i64 a0_1, .int .i64 a0_2, .int .i64 a1, .int .i64 a2] ?_; (with_reducible refine (dioramaref10_Cut.calls k _ _ l0_0 a0_1 a0_2 a1 a2 t1030 t1031 _ ?side1 ?side2 A11.out).mono ?_); (case side1 => exact cz HR0_0); (case side2 => exact HC0_0.out); rintro e w50 ⟨v1032, rfl, ho0, hb⟩; refine ⟨_, rfl, ?_⟩; have HO1033 := Aside0.mk (Kd.R_lower (Kd.R_new' ho0 (Kd.R_lt (rz HO1029))) sz); replace HO1029 := Aside0.mk (Kd.R_elder' (rz HO1029) (Kd.R_base ho0) hb); replace BK1023 := kb BK1023 hb; replace HB := bp hb; clear hb ho0; obtain ⟨hcz51_0, hcz51_1, hcz51_2, hfz51_0, hfz51_1, hfz51_2⟩ := xc3 BK1023) | ((with_reducible refine gate_callee (f := 40) rfl ?_); refine zC 51 Try.func40 #[.slice A0_0 l0_0.length c0_0, .int .i64 a0_1, .int .i64 a0_2, .int .i64 a1] ?_; (with_reducible refine (edit_Delay.calls _ _ l0_0 a0_1 a0_2 a1 t1034 t1035 _ ?side1 ?side2 A12.out).mono ?_); (case side1 => exact cz HR0_0); (case side2 => exact HC0_0.out); rintro e w52 ⟨v1036, rfl, ho0, hb⟩; refine ⟨_, rfl, ?_⟩; have HO1037 := Aside0.mk (Kd.R_lower (Kd.R_new' (Kd.R_new' ho0 (Kd.R_lt (rz HO1029))) (Kd.R_lt (rz HO1033))) sz); replace HO1029 := Aside0.mk (Kd.R_elder' (rz HO1029) (Kd.R_base ho0) hb); replace HO1033 := Aside0.mk (Kd.R_elder' (rz HO1033) (Kd.R_base ho0) hb); replace BK1023 := kb BK1023 hb; replace HB := bp hb; clear hb ho0; obtain ⟨hcz53_0, hcz53_1, hcz53_2, hfz53_0, hfz53_1, hfz53_2⟩ := xc3 BK1023) | ((with_reducible refine gate_callee (f := 41) rfl ?_); refine zC 62 Try.func41 #[.slice A0_0 l0_0.length c0_0, .int .i64 a0_1, .int .i64 a0_2, .int .i64 a1] ?_; (with_reducible refine (dioramaref10_Delay.calls _ _ l0_0 a0_1 a0_2 a1 t1038 t1039 _ ?side1 ?side2 A13.out).mono ?_); (case side1 => exact cz HR0_0); (case side2 => exact HC0_0.out); rintro e w54 ⟨v1040, rfl, ho0, hb⟩; refine ⟨_, rfl, ?_⟩; have HO1041 := Aside0.mk (Kd.R_lower (Kd.R_new' (Kd.R_new' (Kd.R_new' ho0 (Kd.R_lt (rz HO1029))) (Kd.R_lt (rz HO1033))) (Kd.R_lt (rz HO1037))) sz); replace HO1029 := Aside0.mk (Kd.R_elder' (rz HO1029) (Kd.R_base ho0) hb); replace HO1033 := Aside0.mk (Kd.R_elder' (rz HO1033) (Kd.R_base ho0) hb); replace HO1037 := Aside0.mk (Kd.R_elder' (rz HO1037) (Kd.R_base ho0) hb); replace BK1023 := kb BK1023 hb; replace HB := bp hb; clear hb ho0; obtain ⟨Ao55, co55, eo55⟩ := Kd.R_slice HO1029.out; subst eo55; obtain ⟨Ao56, co56, eo56⟩ := Kd.R_slice HO1033.out; subst eo56) | ((with_reducible refine gate_callee (f := 23) rfl ?_); refine zC 69 Try.func23 #[.slice Ao55 t1026.length co55, .int .i64 t1027, .slice Ao56 t1030.length co56, .int .i64 t1031] ?_; (with_reducible refine (dioramalaw10_eq.calls k _ _ t1026 t1027 _ _ t1030 t1031 false _ ?side1 ?side2 ?side3 ?side4 A14.out).mono ?_); (case side1 => exact cr HO1029); (case side2 => exact (Kd.R_reads' HO1029.out).2.1); (case side3 => exact cr HO1033); (case side4 => exact (Kd.R_reads' HO1033.out).2.1); rintro e w' ⟨rfl, ⟨nd, rfl⟩⟩; refine ⟨_, rfl, ?_⟩))
   go_ret
   exact ⟨ez, bz⟩
end Go.Proofs.Ytpbhepdgamoiaaa.E

namespace Go.Proofs.Ytpbhepdgamoiaaa.Cu
open Go.RowKit Go Go.Proofs.YtpbhepdgamoiaaaW.PrintWords Go.Proofs.YtpbhepdgamoiaaaW.PrintLast Go.Proofs.YtpbhepdgamoiaaaW.PrintMore Go.Proofs.Ytpbhepdgamoiaaa.Rf Go.Proofs.Ytpbhepdgamoiaaa.Er Go.Proofs.Ytpbhepdgamoiaaa.Ek Go.Proofs.Ytpbhepdgamoiaaa.Et Go.Proofs.Ytpbhepdgamoiaaa.E Go.Proofs.Ytpbhepdgamoiaaa.Pe Go.Proofs.Ytpbhepdgamoiaaa.Pf Go.Proofs.Ytpbhepdgamoiaaa.Pg Go.Proofs.Ytpbhepdgamoiaaa.Qe Go.Proofs.Ytpbhepdgamoiaaa.Fr Go.Proofs.Ytpbhepdgamoiaaa.Ct Go.Proofs.Ytpbhepdgamoiaaa.Rct Go.Proofs.Ytpbhepdgamoiaaa.Jn Go.Proofs.Ytpbhepdgamoiaaa.Oe
set_option linter.unusedVariables false
set_option linter.unusedSimpArgs false
theorem cutL_len (ms ts fr te : Int) : ∀ (l out : List Ed) (b : Int), (cutL ms ts fr te out b l).1.length ≤ 20
 | [], out, b => nrmV_len ms ts out
 | x :: t, out, b => by
  rw [cutL_cons]
  split
  ·exact cutL_len ms ts fr te t _ _
  ·split
   ·split
    ·exact cutL_len ms ts fr te t _ _
    ·simp
   ·exact cutL_len ms ts fr te t _ _
theorem cutV_len (ms ts fr te : Int) (l : List Ed) : (cutV ms ts fr te l).1.length ≤ 20 := by
 unfold cutV
 split
 ·split
  ·exact cutL_len _ _ _ _ _ _ _
  ·simp
 ·simp
theorem delV_len (ms ts y : Int) (l : List Ed) : (delV ms ts y l).1.length ≤ 20 := by
 unfold delV
 split
 ·split
  ·simp
  ·split
   ·exact cutL_len _ _ _ _ _ _ _
   ·exact nrmV_len ms ts _
 ·simp
theorem pure_Cu (l : List Ed) (ms ts fr te : Int) (hy : in64 fr = true) : Ev (fun k => dioramalaw10_EditCuts.f k l ms ts fr te) true := by
 have aw : Ev (fun k => (dioramalaw10_awake.f k).bind fun t => (some t)) true := Ev.bind awake_f (Ev.now _)
 refine Ev.congr (f := fun k => if 60 < l.length then ((dioramalaw10_awake.f k).bind fun t => (some t)) else ((edit_Cut.f k l ms ts fr te).bind fun b1 => ((dioramaref10_Cut.f k l ms ts fr te).bind fun b2 => ((dioramalaw10_eq.f k b1.1 b1.2 b2.1 b2.2).bind fun t => (if t = true then ((dioramalaw10_eq.f k (delV ms ts fr l).1 (delV ms ts fr l).2 (delV ms ts fr l).1 (delV ms ts fr l).2).bind fun t => (if t = true then ((dioramalaw10_awake.f k).bind fun t => (some t)) else (some false))) else (some false)))))) (fun k => ?_) ?_
 ·unfold dioramalaw10_EditCuts.f edit_Delay.f dioramaref10_Delay.f
  rw [many_f, if_pos hy]
  simp only [Option.bind_some, decide_eq_true_eq]
 by_cases h1 : 60 < l.length
 ·exact Ev.congr (fun k => if_pos h1) aw
 refine Ev.congr (fun k => if_neg h1) (Ev.bind (Cut_f l ms ts fr te) (Ev.bind (rCut_f l ms ts fr te) ?_))
 refine Ev.bind (eq_f _ _ (by have := cutV_len ms ts fr te l; omega)) (Ev.congr (fun k => if_pos rfl) ?_)
 exact Ev.bind (eq_f _ _ (by have := delV_len ms ts fr l; omega)) (Ev.congr (fun k => if_pos rfl) aw)
theorem walk_Cu (a : Option Addr) (len c : Nat) (l : List Ed) (ms ts fr te : Int) (w : World) (h : Eds w a len c l) (_ : (Lit.int .i64 ms).wf = true) (_ : (Lit.int .i64 ts).wf = true) (hf : (Lit.int .i64 fr).wf = true) (_ : (Lit.int .i64 te).wf = true) :
  Calls Try.prog 10 #[.agg #[.slice a len c, .int .i64 ms, .int .i64 ts], .int .i64 fr, .int .i64 te] w (fun e w' => e = .returned (.bool true) ∧ Below w.heap.size w w') := by
 obtain ⟨k, hk⟩ := (pure_Cu l ms ts fr te (in64_wf hf)).rounds
 rw [← h.n]
 exact dioramalaw10_EditCuts.calls k a c l ms ts fr te true w h.c h.h hk
end Go.Proofs.Ytpbhepdgamoiaaa.Cu

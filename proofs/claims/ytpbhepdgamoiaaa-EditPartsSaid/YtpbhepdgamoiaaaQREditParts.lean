/-
  EditParts: for every input the law returns true. Normal lists of lists put behind one another, cut in two, and made faster and slower. EditParts: a list that is cut in two and joined, and one that is made faster and slower again, is the normal list. EditParts: for every input the law returns true.
-/
import Derived.Test.YtpbhepdgamoiaaaQREditPartsf
import Derived.Test.YtpbhepdgamoiaaaQREditPartsc
import Derived.Test.YtpbhepdgamoiaaaRows
import Derived.WalkKit
import Derived.ProofKit
import Derived.OpenShut
import Derived.ChangeOld
import Derived.Below
import Derived.SizedLaws
import Derived.Carry
namespace Go.Proofs.Ytpbhepdgamoiaaa.Np
open Go.RowKit Go Go.Proofs.YtpbhepdgamoiaaaW.PrintWords Go.Proofs.YtpbhepdgamoiaaaW.PrintLast Go.Proofs.YtpbhepdgamoiaaaW.PrintMore Go.Proofs.Ytpbhepdgamoiaaa.Rf Go.Proofs.Ytpbhepdgamoiaaa.Er Go.Proofs.Ytpbhepdgamoiaaa.Ek Go.Proofs.Ytpbhepdgamoiaaa.Et Go.Proofs.Ytpbhepdgamoiaaa.Ew Go.Proofs.Ytpbhepdgamoiaaa.E Go.Proofs.Ytpbhepdgamoiaaa.Pe Go.Proofs.Ytpbhepdgamoiaaa.Pf Go.Proofs.Ytpbhepdgamoiaaa.Qr Go.Proofs.Ytpbhepdgamoiaaa.Qn Go.Proofs.Ytpbhepdgamoiaaa.Qw Go.Proofs.Ytpbhepdgamoiaaa.Fr Go.Proofs.Ytpbhepdgamoiaaa.Nm Go.Proofs.Ytpbhepdgamoiaaa.So Go.Proofs.Ytpbhepdgamoiaaa.Ct Go.Proofs.Ytpbhepdgamoiaaa.Rct
set_option linter.unusedVariables false
set_option linter.unusedSimpArgs false
def cmb (a e : Ed) : Ed := ⟨a.f0 + e.f0, a.f1, a.f2, a.f3⟩
theorem push_cons (ms ts : Int) (a : Ed) (t : List Ed) (e : Ed) : push ms ts (a :: t) e = if ovV ms ts a e = true then cmb a e :: t else e :: a :: t := rfl
theorem cmpQ_zero {p q : Rat} : cmpQ p q = 0 ↔ p = q := by
 refine ⟨cmpQ_eq, fun h => ?_⟩
 subst h
 unfold cmpQ
 rw [if_neg Rat.lt_irrefl, if_neg Rat.lt_irrefl]
theorem ov_iff {ms ts : Int} {a e : Ed} : ovV ms ts a e = true ↔ ((a.f1 < 0 ↔ e.f1 < 0) ∧ kS a.f1 a.f2 a.f3 = kS e.f1 e.f2 e.f3 ∧ kN a.f1 a.f2 a.f3 = kN e.f1 e.f2 e.f3 ∧ kE a.f1 a.f2 a.f3 = kE e.f1 e.f2 e.f3) ∧ (a.f1 < 0 ∨ a.f2 = 0 ∨ afterQ ms ts a.f1 a.f2 a.f3 a.f0 = qq e.f1 1) := by
 unfold ovV overB kinB kB
 simp only [Bool.and_eq_true, Bool.or_eq_true, beq_iff_eq, decide_eq_decide, decide_eq_true_eq, cmpQ_zero, or_assoc]
theorem mov_eq {a e : Ed} (h1 : a.f1 < 0 ↔ e.f1 < 0) (h3 : kN a.f1 a.f2 a.f3 = kN e.f1 e.f2 e.f3) (h4 : kE a.f1 a.f2 a.f3 = kE e.f1 e.f2 e.f3) (hn : ¬ a.f1 < 0) : (a.f2 = 0 ↔ e.f2 = 0) ∧ (a.f2 ≠ 0 → a.f2 = e.f2 ∧ a.f3 = e.f3) := by
 have hn' : ¬ e.f1 < 0 := fun h => hn (h1.2 h)
 unfold kN at h3
 unfold kE at h4
 rw [if_neg hn, if_neg hn'] at h3 h4
 by_cases z : a.f2 = 0
 ·rw [if_pos z] at h3 h4
  by_cases z' : e.f2 = 0
  ·exact ⟨by simp [z, z'], fun h => absurd z h⟩
  ·rw [if_neg z'] at h3
   exact absurd h3.symm z'
 ·rw [if_neg z] at h3 h4
  by_cases z' : e.f2 = 0
  ·rw [if_pos z'] at h3
   exact absurd h3 z
  ·rw [if_neg z'] at h3 h4
   exact ⟨by simp [z, z'], fun _ => ⟨h3, h4⟩⟩
theorem ov_cmb {ms ts : Int} (hm : ms ≠ 0) {a e f : Ed} (h : ovV ms ts a e = true) : ovV ms ts (cmb a e) f = ovV ms ts e f := by
 obtain ⟨⟨h1, h2, h3, h4⟩, h5⟩ := ov_iff.1 h
 rw [Bool.eq_iff_iff, ov_iff, ov_iff]
 simp only [cmb]
 rw [h1, h2, h3, h4]
 by_cases hn : a.f1 < 0
 ·have hn' := h1.1 hn
  simp [hn']
 ·have hn' : ¬ e.f1 < 0 := fun h => hn (h1.2 h)
  obtain ⟨z, q⟩ := mov_eq h1 h3 h4 hn
  by_cases ha : a.f2 = 0
  ·have he := z.1 ha
   simp [ha, he]
  ·have he : e.f2 ≠ 0 := fun h => ha (z.2 h)
   obtain ⟨q1, q2⟩ := q ha
   have h6 : afterQ ms ts a.f1 a.f2 a.f3 a.f0 = qq e.f1 1 := by
    rcases h5 with h | h | h
    ·exact absurd h hn
    ·exact absurd h ha
    ·exact h
   have h7 : afterQ ms ts a.f1 a.f2 a.f3 (a.f0 + e.f0) = afterQ ms ts e.f1 e.f2 e.f3 e.f0 := by
    unfold afterQ at h6 ⊢
    rw [qq_add1 hm, ← q1, ← q2, ← h6]
    grind
   rw [h7]
   simp [hn', ha, he]
theorem push_push {ms ts : Int} (hm : ms ≠ 0) {o : List Ed} {a e : Ed} (h : ovV ms ts a e = true) : push ms ts (push ms ts o a) e = push ms ts o (cmb a e) := by
 cases o with
 | nil =>
  show push ms ts [a] e = [cmb a e]
  rw [push_cons, if_pos h]
 | cons b t =>
  have hr : ovV ms ts b (cmb a e) = ovV ms ts b a := rfl
  rw [push_cons, push_cons, hr]
  by_cases hb : ovV ms ts b a = true
  ·rw [if_pos hb, if_pos hb, push_cons, ov_cmb hm hb, if_pos h]
   congr 1
   unfold cmb
   simp only [Int.add_assoc]
  ·rw [if_neg hb, if_neg hb, push_cons, if_pos h]
theorem fold_step {ms ts : Int} (hm : ms ≠ 0) (out o : List Ed) (e : Ed) : push ms ts (out.reverse.foldl (push ms ts) o) e = (push ms ts out e).reverse.foldl (push ms ts) o := by
 cases out with
 | nil => rfl
 | cons a t =>
  rw [push_cons]
  by_cases h : ovV ms ts a e = true
  ·rw [if_pos h]
   simp only [List.reverse_cons, List.foldl_append, List.foldl_cons, List.foldl_nil]
   exact push_push hm h
  ·rw [if_neg h]
   simp only [List.reverse_cons, List.foldl_append, List.foldl_cons, List.foldl_nil]
theorem fold_norm {ms ts : Int} (hm : ms ≠ 0) : ∀ (L out o : List Ed), L.foldl (push ms ts) (out.reverse.foldl (push ms ts) o) = (L.foldl (push ms ts) out).reverse.foldl (push ms ts) o
 | [], out, o => rfl
 | e :: L, out, o => by
  rw [List.foldl_cons, List.foldl_cons, fold_step hm, fold_norm hm L]
theorem nrm_low {ms ts : Int} (l : List Ed) : (nrm ms ts l).map lowV = nrm ms ts l := by
 obtain ⟨h1, h2⟩ := nrmR_keep (ms := ms) (ts := ts) l [] trivial (by simp)
 have : ∀ x ∈ nrm ms ts l, lowV x = x := fun x hx => h2 x (List.mem_reverse.1 hx)
 exact (List.map_congr_left this).trans (List.map_id _)
theorem nrm_fold (ms ts : Int) (l : List Ed) : nrm ms ts l = ((l.map lowV).foldl (push ms ts) []).reverse := rfl
theorem nrm_join {ms ts : Int} (hm : ms ≠ 0) (a b : List Ed) : nrm ms ts (nrm ms ts a ++ nrm ms ts b) = nrm ms ts (a ++ b) := by
 rw [nrm_fold ms ts (nrm ms ts a ++ nrm ms ts b), List.map_append, nrm_low, nrm_low, List.foldl_append, nrm_fold ms ts (a ++ b), List.map_append, List.foldl_append]
 congr 1
 rw [nrm_fold ms ts a, nrm_fold ms ts b, ← fold_norm hm (b.map lowV) [] _, ← fold_norm hm (a.map lowV) [] _]
 rfl
theorem nrmV_of {ms ts : Int} {z : List Ed} (hs : sumD z ≤ 1099511627776) (hl : (nrm ms ts z).length ≤ 20) : nrmV ms ts z = (nrm ms ts z, 0) := by
 unfold nrm at hl
 rw [List.length_reverse] at hl
 unfold nrmV fin
 rw [if_neg (by omega), if_neg (by omega)]
 rfl
theorem pcs_all {ms ts fr : Int} : ∀ (l : List Ed) (b : Int), 0 ≤ b → fr ≤ b → b + sumD l ≤ 1099511627776 → (∀ x ∈ l, Vd x) → pcs ms ts fr 1099511627776 b l = l
 | [], b, _, _, _, _ => rfl
 | x :: t, b, hb, hf, hs, hV => by
  have hv := hV x (by simp)
  have d0 := hv.d0
  have m1 := hv.m1
  have hst : 0 ≤ sumD t := sumD_nonneg (fun y hy => hV y (by simp [hy]))
  simp only [sumD] at hs
  have e1 : mx b fr = b := by unfold mx; split <;> omega
  have e2 : mn (b + x.f0) 1099511627776 = b + x.f0 := by unfold mn; split <;> omega
  rw [pcs_cons, e1, e2, if_neg (by omega), pcs_all (ms := ms) (ts := ts) t (b + x.f0) (by omega) (by omega) (by omega) (fun y hy => hV y (by simp [hy]))]
  congr 1
  have e3 : b + x.f0 - b = x.f0 := by omega
  have e4 : b - b = 0 := by omega
  rw [e3, e4, after_z1, wh_int m1]
  split <;> rfl
theorem low_ov {ms ts : Int} (hc : Ck ms ts) {x : Ed} (hx : Vd x) {k d e m : Int} (hk : 0 ≤ k) (hm : 0 ≤ x.f1 → (whV (afterQ ms ts x.f1 x.f2 x.f3 k)).2 = 0) (hm2 : m = if 0 ≤ x.f1 then (whV (afterQ ms ts x.f1 x.f2 x.f3 k)).1 else x.f1) : ovV ms ts (lowV ⟨k, x.f1, x.f2, x.f3⟩) (lowV ⟨e, m, x.f2, x.f3⟩) = true := by
 rw [ov_iff]
 unfold lowV
 simp only
 by_cases h : 0 ≤ x.f1
 ·rw [if_pos h] at hm2
  have w := wh_rng (after_nn hc h hx.n0 hx.e0 hk) (hm h)
  rw [← hm2] at w
  have h0 : ¬ x.f1 < 0 := by omega
  have h0' : ¬ m < 0 := by omega
  have hq : afterQ ms ts x.f1 (qq x.f2 x.f3).num ((qq x.f2 x.f3).den : Int) k = qq m 1 := by
   rw [w.2]
   unfold afterQ
   rw [qq_lo]
  refine ⟨⟨⟨fun hc => absurd hc h0, fun hc => absurd hc h0'⟩, ?_, ?_, ?_⟩, .inr (.inr hq)⟩
  ·unfold kS
   rw [if_neg h0, if_neg h0']
   by_cases z : (qq x.f2 x.f3).num = 0
   ·rw [if_pos z, if_pos z]
    rw [z] at hq
    rw [after_z2] at hq
    have := (qq_eq (by decide) (by decide)).1 hq
    omega
   ·rw [if_neg z, if_neg z]
  ·unfold kN
   rw [if_neg h0, if_neg h0']
  ·unfold kE
   rw [if_neg h0, if_neg h0']
 ·rw [if_neg h] at hm2
  subst hm2
  exact ⟨⟨Iff.rfl, rfl, rfl, rfl⟩, .inl (by omega)⟩
theorem cut_two {ms ts y : Int} (hc : Ck ms ts) (hy : 0 ≤ y) (hy1 : y ≤ 1099511627776) : ∀ (l : List Ed) (b : Int) (o : List Ed), 0 ≤ b → b + sumD l ≤ 1099511627776 → pok ms ts y 1099511627776 b l → (∀ x ∈ l, Vd x) →
  ((pcs ms ts 0 y b l ++ pcs ms ts y 1099511627776 b l).map lowV).foldl (push ms ts) o = (l.map lowV).foldl (push ms ts) o
 | [], b, o, _, _, _, _ => rfl
 | x :: t, b, o, hb, hs, hp, hV => by
  have hv := hV x (by simp)
  have d0 := hv.d0
  have m1 := hv.m1
  have hV2 : ∀ z ∈ t, Vd z := fun z hz => hV z (by simp [hz])
  have hst : 0 ≤ sumD t := sumD_nonneg hV2
  have hs2 := hs
  simp only [sumD] at hs
  have e0 : mx b 0 = b := by unfold mx; split <;> omega
  by_cases h1 : y ≤ b
  ·rw [pcs_end (x :: t) b hV (by rw [e0]; exact h1), List.nil_append, pcs_all (x :: t) b hb h1 hs2 hV]
  ·by_cases h2 : b + x.f0 ≤ y
   ·have e1 : mn (b + x.f0) y = b + x.f0 := by unfold mn; split <;> omega
    have e2 : mx b y = y := by unfold mx; split <;> omega
    have e3 : mn (b + x.f0) 1099511627776 = b + x.f0 := by unfold mn; split <;> omega
    have ih := cut_two hc hy hy1 t (b + x.f0) (push ms ts o (lowV x)) (by omega) (by omega) hp.2 hV2
    rw [pcs_cons ms ts 0, e0, e1, if_neg (by omega), pcs_cons ms ts y, e2, e3, if_pos h2]
    have e4 : b + x.f0 - b = x.f0 := by omega
    have e5 : b - b = 0 := by omega
    rw [e4, e5, after_z1, wh_int m1]
    have e6 : (⟨x.f0, if 0 ≤ x.f1 then (x.f1, (0 : Int)).1 else x.f1, x.f2, x.f3⟩ : Ed) = x := by split <;> rfl
    rw [e6, List.cons_append, List.map_cons, List.foldl_cons, List.map_cons, List.foldl_cons]
    exact ih
   ·have e1 : mn (b + x.f0) y = y := by unfold mn; split <;> omega
    have e2 : mx b y = y := by unfold mx; split <;> omega
    have e3 : mn (b + x.f0) 1099511627776 = b + x.f0 := by unfold mn; split <;> omega
    have hpx := hp.1
    rw [e2, e3] at hpx
    rw [pcs_cons ms ts 0, e0, e1, if_neg (by omega), pcs_cons ms ts y, e2, e3, if_neg h2, pcs_end t (b + x.f0) hV2 (by unfold mx; split <;> omega), pcs_all t (b + x.f0) (by omega) (by omega) (by omega) hV2]
    have e5 : b - b = 0 := by omega
    rw [e5, after_z1, wh_int m1]
    have e6 : (⟨y - b, if 0 ≤ x.f1 then (x.f1, (0 : Int)).1 else x.f1, x.f2, x.f3⟩ : Ed) = ⟨y - b, x.f1, x.f2, x.f3⟩ := by split <;> rfl
    rw [e6, List.singleton_append, List.map_cons, List.map_cons, List.foldl_cons, List.foldl_cons, List.map_cons, List.foldl_cons]
    rw [push_push (by have := hc.m0; omega) (low_ov (d := 0) hc hv (by omega) (hpx (by omega)) rfl)]
    congr 2
    unfold cmb lowV
    simp only
    congr 1
    omega
end Go.Proofs.Ytpbhepdgamoiaaa.Np
namespace Go.Proofs.Ytpbhepdgamoiaaa.Pt
open Go.RowKit Go Go.Proofs.YtpbhepdgamoiaaaW.PrintWords Go.Proofs.YtpbhepdgamoiaaaW.PrintLast Go.Proofs.YtpbhepdgamoiaaaW.PrintMore Go.Proofs.Ytpbhepdgamoiaaa.Rf Go.Proofs.Ytpbhepdgamoiaaa.Er Go.Proofs.Ytpbhepdgamoiaaa.Ek Go.Proofs.Ytpbhepdgamoiaaa.Et Go.Proofs.Ytpbhepdgamoiaaa.E Go.Proofs.Ytpbhepdgamoiaaa.Pe Go.Proofs.Ytpbhepdgamoiaaa.Pf Go.Proofs.Ytpbhepdgamoiaaa.Pg Go.Proofs.Ytpbhepdgamoiaaa.Qe Go.Proofs.Ytpbhepdgamoiaaa.Qr Go.Proofs.Ytpbhepdgamoiaaa.Qn Go.Proofs.Ytpbhepdgamoiaaa.Qw Go.Proofs.Ytpbhepdgamoiaaa.Fr Go.Proofs.Ytpbhepdgamoiaaa.Nm Go.Proofs.Ytpbhepdgamoiaaa.So Go.Proofs.Ytpbhepdgamoiaaa.Ct Go.Proofs.Ytpbhepdgamoiaaa.Jn Go.Proofs.Ytpbhepdgamoiaaa.Np Go.Proofs.Ytpbhepdgamoiaaa.Oe
set_option linter.unusedVariables false
set_option linter.unusedSimpArgs false
theorem low_num {a : Ed} (h : lowV a = a) : (qq a.f2 a.f3).num = a.f2 ∧ ((qq a.f2 a.f3).den : Int) = a.f3 := by
 unfold lowV at h
 exact ⟨congrArg (fun z : Ed => z.f2) h, congrArg (fun z : Ed => z.f3) h⟩
theorem ov_lowR {ms ts : Int} {a e : Ed} (la : lowV a = a) (le : lowV e = e) : ovV ms ts a e = true ↔ ((a.f1 < 0 ↔ e.f1 < 0) ∧ (¬ a.f1 < 0 → (a.f2 = 0 ↔ e.f2 = 0) ∧ (a.f2 = 0 → a.f1 = e.f1) ∧ (a.f2 ≠ 0 → qq a.f2 a.f3 = qq e.f2 e.f3 ∧ afterQ ms ts a.f1 a.f2 a.f3 a.f0 = qq e.f1 1))) := by
 rw [ov_iff]
 constructor
 ·rintro ⟨⟨h1, h2, h3, h4⟩, h5⟩
  refine ⟨h1, fun hn => ?_⟩
  have hn' : ¬ e.f1 < 0 := fun h => hn (h1.2 h)
  obtain ⟨z, q⟩ := mov_eq h1 h3 h4 hn
  refine ⟨z, fun ha => ?_, fun ha => ?_⟩
  ·have he := z.1 ha
   unfold kS at h2
   rwa [if_neg hn, if_neg hn', if_pos ha, if_pos he] at h2
  ·obtain ⟨q1, q2⟩ := q ha
   refine ⟨by rw [q1, q2], ?_⟩
   rcases h5 with h | h | h
   ·exact absurd h hn
   ·exact absurd h ha
   ·exact h
 ·rintro ⟨h1, h2⟩
  by_cases hn : a.f1 < 0
  ·have hn' := h1.1 hn
   refine ⟨⟨h1, ?_, ?_, ?_⟩, .inl hn⟩
   ·unfold kS
    rw [if_pos hn, if_pos hn']
   ·unfold kN
    rw [if_pos hn, if_pos hn']
   ·unfold kE
    rw [if_pos hn, if_pos hn']
  ·have hn' : ¬ e.f1 < 0 := fun h => hn (h1.2 h)
   obtain ⟨z, s, q⟩ := h2 hn
   by_cases ha : a.f2 = 0
   ·have he := z.1 ha
    refine ⟨⟨h1, ?_, ?_, ?_⟩, .inr (.inl ha)⟩
    ·unfold kS
     rw [if_neg hn, if_neg hn', if_pos ha, if_pos he]
     exact s ha
    ·unfold kN
     rw [if_neg hn, if_neg hn', if_pos ha, if_pos he]
    ·unfold kE
     rw [if_neg hn, if_neg hn', if_pos ha, if_pos he]
   ·have he : e.f2 ≠ 0 := fun h => ha (z.2 h)
    obtain ⟨q1, q2⟩ := q ha
    have na := low_num la
    have ne := low_num le
    rw [q1] at na
    refine ⟨⟨h1, ?_, ?_, ?_⟩, .inr (.inr q2)⟩
    ·unfold kS
     rw [if_neg hn, if_neg hn', if_neg ha, if_neg he]
    ·unfold kN
     rw [if_neg hn, if_neg hn', if_neg ha, if_neg he, ← na.1, ne.1]
    ·unfold kE
     rw [if_neg hn, if_neg hn', if_neg ha, if_neg he, ← na.2, ne.2]
structure Bk (num den : Int) (y : Ed) : Prop where
 low : lowV y = y
 dv : y.f0 * num % den = 0
 n0 : 0 ≤ y.f2
 e0 : 1 ≤ y.f3
def bkE (num den : Int) (y : Ed) : Ed := lowV (fstE den num (y.f0 * num / den) y)
theorem bk_f0 (num den : Int) (y : Ed) : (bkE num den y).f0 = y.f0 * num / den := by
 unfold bkE fstE lowV
 split <;> rfl
theorem bk_f1 (num den : Int) (y : Ed) : (bkE num den y).f1 = y.f1 := by
 unfold bkE fstE lowV
 split <;> rfl
theorem bk_low (num den : Int) (y : Ed) : lowV (bkE num den y) = bkE num den y := low_low _
theorem bk_rate {num den : Int} {y : Ed} (h1 : ¬ y.f1 < 0) (h2 : 0 < y.f2) : qq (bkE num den y).f2 (bkE num den y).f3 = qq y.f2 y.f3 * qq den num := by
 have e : qq y.f2 y.f3 * qq den num = qq (y.f2 * den) (y.f3 * num) := by
  unfold qq
  rw [Rat.divInt_mul_divInt]
 unfold bkE fstE
 rw [if_pos ⟨by omega, h2⟩, low_low, e]
 unfold lowV
 simp only
 exact qq_lo _ _
theorem bk_still {num den : Int} {y : Ed} (hy : Bk num den y) (h : ¬ (0 ≤ y.f1 ∧ 0 < y.f2)) : (bkE num den y).f2 = y.f2 := by
 unfold bkE fstE
 rw [if_neg h]
 unfold lowV
 simp only
 exact (low_num hy.low).1
theorem bk_zero {num den : Int} (hr : Rt num den) {y : Ed} (hy : Bk num den y) (h1 : ¬ y.f1 < 0) : (bkE num den y).f2 = 0 ↔ y.f2 = 0 := by
 by_cases h2 : 0 < y.f2
 ·have h3 := bk_rate (num := num) (den := den) h1 h2
  refine ⟨fun h => ?_, fun h => by omega⟩
  rw [h, qq_zero] at h3
  have p1 : 0 < qq y.f2 y.f3 := by
   rw [show (0 : Rat) = qq 0 1 from (qq_zero 1).symm, qq_lt (by decide) (by have := hy.e0; omega)]
   omega
  have p2 : 0 < qq den num := by
   rw [show (0 : Rat) = qq 0 1 from (qq_zero 1).symm, qq_lt (by decide) (by have := hr.n0; omega)]
   have := hr.d0
   omega
  exact absurd h3.symm (Rat.ne_of_lt (Rat.mul_pos p1 p2)).symm
 ·rw [bk_still hy (fun h => h2 h.2)]
theorem bk_after {ms ts num den : Int} (hr : Rt num den) {y : Ed} (hy : Bk num den y) (h1 : ¬ y.f1 < 0) (h2 : 0 < y.f2) : afterQ ms ts (bkE num den y).f1 (bkE num den y).f2 (bkE num den y).f3 (bkE num den y).f0 = afterQ ms ts y.f1 y.f2 y.f3 y.f0 := by
 unfold afterQ
 rw [bk_rate h1 h2, bk_f0, bk_f1]
 have hd : y.f0 * num / den * den = y.f0 * num := by
  have := Int.mul_ediv_add_emod (y.f0 * num) den
  rw [hy.dv, Int.add_zero] at this
  rw [Int.mul_comm]
  exact this
 have hq : qq (y.f0 * num / den) ms * qq den num = qq y.f0 ms := by
  unfold qq
  rw [Rat.divInt_mul_divInt, hd, Rat.divInt_mul_right (by have := hr.n0; omega)]
 rw [← hq]
 grind
theorem bk_ov {ms ts num den : Int} (hr : Rt num den) {a e : Ed} (ha : Bk num den a) (he : Bk num den e) : ovV ms ts (bkE num den a) (bkE num den e) = ovV ms ts a e := by
 rw [Bool.eq_iff_iff, ov_lowR (bk_low _ _ _) (bk_low _ _ _), ov_lowR ha.low he.low, bk_f1, bk_f1]
 have hn0 := ha.n0
 have hn1 := he.n0
 have hs : qq den num * qq num den = 1 := by
  unfold qq
  rw [Rat.divInt_mul_divInt, Int.mul_comm num den]
  exact Rat.divInt_self' (by have := Int.mul_pos (show 0 < den by have := hr.d0; omega) (show 0 < num by have := hr.n0; omega); omega)
 have hs2 : ∀ p q : Rat, p * qq den num = q * qq den num ↔ p = q := by
  intro p q
  refine ⟨fun h => ?_, fun h => by rw [h]⟩
  have : p * (qq den num * qq num den) = q * (qq den num * qq num den) := by rw [← Rat.mul_assoc, ← Rat.mul_assoc, h]
  rw [hs] at this
  grind
 by_cases hn : a.f1 < 0
 ·by_cases hb : e.f1 < 0
  ·simp [hn, hb]
  ·simp [hn, hb]
 ·by_cases hb : e.f1 < 0
  ·simp [hn, hb]
  ·have za := bk_zero hr ha hn
   have ze := bk_zero hr he hb
   by_cases z : a.f2 = 0
   ·have zb := za.2 z
    by_cases z2 : e.f2 = 0
    ·have zc := ze.2 z2
     simp [z, z2, zb, zc, hn, hb]
    ·have zc : ¬ (bkE num den e).f2 = 0 := fun h => z2 (ze.1 h)
     simp [z, z2, zb, zc, hn, hb]
   ·have zb : ¬ (bkE num den a).f2 = 0 := fun h => z (za.1 h)
    by_cases z2 : e.f2 = 0
    ·have zc := ze.2 z2
     simp [z, z2, zb, zc, hn, hb]
    ·have zc : ¬ (bkE num den e).f2 = 0 := fun h => z2 (ze.1 h)
     have r1 := bk_rate (num := num) (den := den) (y := a) hn (by omega)
     have r2 := bk_rate (num := num) (den := den) (y := e) hb (by omega)
     have r3 := bk_after (ms := ms) (ts := ts) hr ha hn (by omega)
     rw [bk_f1] at r3
     rw [r1, r2, r3, hs2]
     simp [z, z2, zb, zc, hn, hb]
theorem cmb_low {a e : Ed} (h : lowV a = a) : lowV (cmb a e) = cmb a e := by
 have := low_num h
 unfold lowV cmb
 simp only [this.1, this.2]
theorem dvd_add {a b n d : Int} (ha : a * n % d = 0) (hb : b * n % d = 0) : (a + b) * n % d = 0 ∧ (a + b) * n / d = a * n / d + b * n / d := by
 have h1 := Int.dvd_of_emod_eq_zero ha
 have h2 := Int.dvd_of_emod_eq_zero hb
 rw [Int.add_mul]
 exact ⟨Int.emod_eq_zero_of_dvd (Int.dvd_add h1 h2), Int.add_ediv_of_dvd_left h1⟩
theorem bk_cmb {num den : Int} {a e : Ed} (ha : Bk num den a) (he : Bk num den e) : bkE num den (cmb a e) = cmb (bkE num den a) (bkE num den e) ∧ Bk num den (cmb a e) := by
 have hd := dvd_add ha.dv he.dv
 refine ⟨?_, ⟨cmb_low ha.low, hd.1, ha.n0, ha.e0⟩⟩
 have h0 : (bkE num den (cmb a e)).f0 = (bkE num den a).f0 + (bkE num den e).f0 := by
  rw [bk_f0, bk_f0, bk_f0]
  exact hd.2
 have hx : ∀ x y : Ed, x.f0 = y.f0 → x.f1 = y.f1 → x.f2 = y.f2 → x.f3 = y.f3 → x = y := by
  rintro ⟨_, _, _, _⟩ ⟨_, _, _, _⟩ h1 h2 h3 h4
  simp only at h1 h2 h3 h4
  subst h1 h2 h3 h4
  rfl
 refine hx _ _ h0 ?_ ?_ ?_
 ·unfold bkE fstE lowV cmb
  simp only
  split <;> rfl
 ·unfold bkE fstE lowV cmb
  simp only
  split <;> rfl
 ·unfold bkE fstE lowV cmb
  simp only
  split <;> rfl
theorem push_bk {ms ts num den : Int} (hr : Rt num den) {o : List Ed} {e : Ed} (ho : ∀ x ∈ o, Bk num den x) (he : Bk num den e) : (push ms ts o e).map (bkE num den) = push ms ts (o.map (bkE num den)) (bkE num den e) ∧ ∀ x ∈ push ms ts o e, Bk num den x := by
 cases o with
 | nil => exact ⟨rfl, by simpa [push] using he⟩
 | cons a t =>
  have ha := ho a (by simp)
  rw [List.map_cons, push_cons, push_cons, bk_ov hr ha he]
  have hc := bk_cmb ha he
  by_cases h : ovV ms ts a e = true
  ·rw [if_pos h, if_pos h, List.map_cons, hc.1]
   refine ⟨rfl, fun x hx => ?_⟩
   rcases List.mem_cons.1 hx with rfl | hx
   ·exact hc.2
   ·exact ho x (by simp [hx])
  ·rw [if_neg h, if_neg h]
   refine ⟨rfl, fun x hx => ?_⟩
   rcases List.mem_cons.1 hx with rfl | hx
   ·exact he
   ·exact ho x hx
theorem fold_bk {ms ts num den : Int} (hr : Rt num den) : ∀ (L o : List Ed), (∀ x ∈ o, Bk num den x) → (∀ x ∈ L, Bk num den x) → (L.foldl (push ms ts) o).map (bkE num den) = (L.map (bkE num den)).foldl (push ms ts) (o.map (bkE num den))
 | [], o, _, _ => rfl
 | e :: L, o, ho, hL => by
  have hp := push_bk (ms := ms) (ts := ts) hr ho (hL e (by simp))
  rw [List.foldl_cons, List.map_cons, List.foldl_cons, ← hp.1]
  exact fold_bk hr L _ hp.2 (fun x hx => hL x (by simp [hx]))
theorem fst_bk {num den : Int} (hr : Rt num den) {x : Ed} (hx : Vd x) (h : (fastV num den x).1 = 0) : Bk num den (lowV (fastV num den x).2) ∧ bkE num den (lowV (fastV num den x).2) = lowV x := by
 have r0 := hr.n0
 have r1 := hr.d0
 unfold fastV at h ⊢
 by_cases h0 : x.f0 * den % num = 0
 ·rw [if_pos h0] at h ⊢
  have hd : x.f0 * den / num * num = x.f0 * den := by
   have := Int.mul_ediv_add_emod (x.f0 * den) num
   rw [h0, Int.add_zero] at this
   rw [Int.mul_comm]
   exact this
  generalize x.f0 * den / num = d at h hd ⊢
  by_cases h1 : (0 ≤ x.f1 ∧ 0 < x.f2) ∧ (1000 < (fstE num den d x).f2 ∨ 1000 < (fstE num den d x).f3)
  ·rw [if_pos h1] at h
   cases h
  ·rw [if_neg h1] at h ⊢
   by_cases h2 : 1099511627776 < d
   ·rw [if_pos h2] at h
    cases h
   ·rw [if_neg h2]
    simp only
    have hf : (lowV (fstE num den d x)).f0 = d := by unfold fstE lowV; split <;> rfl
    have hf1 : (lowV (fstE num den d x)).f1 = x.f1 := by unfold fstE lowV; split <;> rfl
    have hdv : d * num % den = 0 := by rw [hd]; exact Int.mul_emod_left _ _
    have hdq : d * num / den = x.f0 := by rw [hd]; exact Int.mul_ediv_cancel _ (by omega)
    have n0 := hx.n0
    have e0 := hx.e0
    have hq : 0 ≤ (lowV (fstE num den d x)).f2 ∧ 1 ≤ (lowV (fstE num den d x)).f3 ∧ qq (lowV (fstE num den d x)).f2 (lowV (fstE num den d x)).f3 = (if 0 ≤ x.f1 ∧ 0 < x.f2 then qq x.f2 x.f3 * qq num den else qq x.f2 x.f3) := by
     unfold fstE
     split
     ·have e : qq x.f2 x.f3 * qq num den = qq (x.f2 * num) (x.f3 * den) := by
       unfold qq
       rw [Rat.divInt_mul_divInt]
      have p1 := Int.mul_nonneg n0 (show 0 ≤ num by omega)
      have p2 := Int.mul_pos (show 0 < x.f3 by omega) (show 0 < den by omega)
      have hl := qq_low (n := x.f2 * num) (e := x.f3 * den) p1 (by omega)
      rw [low_low, e]
      unfold lowV
      simp only
      exact ⟨hl.1, hl.2.2.1, qq_lo _ _⟩
     ·have hl := qq_low n0 e0
      unfold lowV
      simp only
      exact ⟨hl.1, hl.2.2.1, qq_lo _ _⟩
    have hB : Bk num den (lowV (fstE num den d x)) := ⟨low_low _, by rw [hf]; exact hdv, hq.1, hq.2.1⟩
    refine ⟨hB, ?_⟩
    generalize lowV (fstE num den d x) = y at *
    have hx4 : ∀ u v : Ed, u.f0 = v.f0 → u.f1 = v.f1 → u.f2 = v.f2 → u.f3 = v.f3 → u = v := by
     rintro ⟨_, _, _, _⟩ ⟨_, _, _, _⟩ h1 h2 h3 h4
     simp only at h1 h2 h3 h4
     subst h1 h2 h3 h4
     rfl
    have hrate : qq (bkE num den y).f2 (bkE num den y).f3 = qq x.f2 x.f3 := by
     by_cases hm : 0 ≤ x.f1 ∧ 0 < x.f2
     ·rw [if_pos hm] at hq
      have p1 : 0 < y.f2 := by
       have q1 : 0 < qq x.f2 x.f3 * qq num den := by
        refine Rat.mul_pos ?_ ?_
        ·rw [show (0 : Rat) = qq 0 1 from (qq_zero 1).symm, qq_lt (by decide) (by omega)]
         omega
        ·rw [show (0 : Rat) = qq 0 1 from (qq_zero 1).symm, qq_lt (by decide) (by omega)]
         omega
       refine Int.not_le.1 fun hc => ?_
       have : y.f2 = 0 := by omega
       rw [this, qq_zero] at hq
       exact absurd hq.2.2 (Rat.ne_of_lt q1)
      rw [bk_rate (by rw [hf1]; omega) p1, hq.2.2]
      have hs : qq num den * qq den num = 1 := by
       unfold qq
       rw [Rat.divInt_mul_divInt, Int.mul_comm den num]
       exact Rat.divInt_self' (by have := Int.mul_pos (show 0 < num by omega) (show 0 < den by omega); omega)
      rw [Rat.mul_assoc, hs, Rat.mul_one]
     ·rw [if_neg hm] at hq
      have hm2 : ¬ (0 ≤ y.f1 ∧ 0 < y.f2) := by
       rw [hf1]
       rintro ⟨c1, c2⟩
       have z : x.f2 = 0 := by omega
       have hl := low_num hB.low
       rw [hq.2.2, z, qq_zero] at hl
       have : y.f2 = 0 := hl.1.symm
       omega
      unfold bkE fstE
      rw [if_neg hm2]
      unfold lowV
      simp only
      rw [qq_lo]
      exact hq.2.2
    have hl := low_num (bk_low num den y)
    rw [hrate] at hl
    refine hx4 _ _ ?_ ?_ ?_ ?_
    ·rw [bk_f0, hf, hdq]
     rfl
    ·rw [bk_f1, hf1]
     rfl
    ·exact hl.1.symm
    ·exact hl.2.symm
 ·rw [if_neg h0] at h
  cases h
theorem fas_back {ms ts num den : Int} {l : List Ed} (h1 : (fasV ms ts num den l).2 = 0) (h2 : (fasV ms ts den num (fasV ms ts num den l).1).2 = 0) : (fasV ms ts den num (fasV ms ts num den l).1).1 = nrm ms ts l := by
 have c1 := fas_med h1
 obtain ⟨hk, hk2, hr, -⟩ := c1
 obtain ⟨hc, hl, hV, hs⟩ := chk_ok.1 hk
 have hm : ms ≠ 0 := by have := hc.m0; omega
 have e1 : fasV ms ts num den l = (nrm ms ts (l.map (fun x => (fastV num den x).2)), 0) ∧ ∀ x ∈ l, (fastV num den x).1 = 0 := by
  unfold fasV at h1 ⊢
  rw [if_pos hk, if_pos ⟨hr.n0, hr.n1, hr.d0, hr.d1⟩] at h1 ⊢
  obtain ⟨a1, a2⟩ := mapE_inv l [] h1
  rw [List.nil_append] at a2
  rw [a2] at h1 ⊢
  have hV2 : ∀ y ∈ l.map (fun x => (fastV num den x).2), Vd y := by
   intro y hy
   obtain ⟨x, hx, rfl⟩ := List.mem_map.1 hy
   exact fast_vd hr (hV x hx) (Prod.ext (a1 x hx) rfl)
  exact ⟨(nrmV_ok hc hV2 h1).1, a1⟩
 rw [e1.1] at h2 hk2 ⊢
 simp only at h2 hk2 ⊢
 generalize hC : nrm ms ts (l.map (fun x => (fastV num den x).2)) = c at *
 have hr' : Rt den num := ⟨hr.d0, hr.d1, hr.n0, hr.n1⟩
 obtain ⟨-, -, hVc, -⟩ := chk_ok.1 hk2
 have e2 : fasV ms ts den num c = (nrm ms ts (c.map (fun x => (fastV den num x).2)), 0) ∧ ∀ x ∈ c, (fastV den num x).1 = 0 := by
  unfold fasV at h2 ⊢
  rw [if_pos hk2, if_pos ⟨hr'.n0, hr'.n1, hr'.d0, hr'.d1⟩] at h2 ⊢
  obtain ⟨a1, a2⟩ := mapE_inv c [] h2
  rw [List.nil_append] at a2
  rw [a2] at h2 ⊢
  have hV2 : ∀ y ∈ c.map (fun x => (fastV den num x).2), Vd y := by
   intro y hy
   obtain ⟨x, hx, rfl⟩ := List.mem_map.1 hy
   exact fast_vd hr' (hVc x hx) (Prod.ext (a1 x hx) rfl)
  exact ⟨(nrmV_ok hc hV2 h2).1, a1⟩
 rw [e2.1]
 show nrm ms ts (c.map (fun x => (fastV den num x).2)) = nrm ms ts l
 have e3 : (c.map (fun x => (fastV den num x).2)).map lowV = c.map (bkE num den) := by
  rw [List.map_map]
  refine List.map_congr_left fun y hy => ?_
  have hz := e2.2 y hy
  show lowV (fastV den num y).2 = bkE num den y
  unfold fastV at hz ⊢
  unfold bkE
  by_cases g0 : y.f0 * num % den = 0
  ·rw [if_pos g0] at hz ⊢
   by_cases g1 : (0 ≤ y.f1 ∧ 0 < y.f2) ∧ (1000 < (fstE den num (y.f0 * num / den) y).f2 ∨ 1000 < (fstE den num (y.f0 * num / den) y).f3)
   ·rw [if_pos g1] at hz
    cases hz
   ·rw [if_neg g1] at hz ⊢
    by_cases g2 : 1099511627776 < y.f0 * num / den
    ·rw [if_pos g2] at hz
     cases hz
    ·rw [if_neg g2]
  ·rw [if_neg g0] at hz
   cases hz
 have hBk : ∀ y ∈ (l.map (fun x => (fastV num den x).2)).map lowV, Bk num den y := by
  intro y hy
  obtain ⟨z, hz, rfl⟩ := List.mem_map.1 hy
  obtain ⟨x, hx, rfl⟩ := List.mem_map.1 hz
  exact (fst_bk hr (hV x hx) (e1.2 x hx)).1
 have e4 : ((l.map (fun x => (fastV num den x).2)).map lowV).map (bkE num den) = l.map lowV := by
  rw [List.map_map, List.map_map]
  refine List.map_congr_left fun x hx => ?_
  exact (fst_bk hr (hV x hx) (e1.2 x hx)).2
 have hf := fold_bk (ms := ms) (ts := ts) hr ((l.map (fun x => (fastV num den x).2)).map lowV) [] (by simp) hBk
 rw [e4, List.map_nil] at hf
 have e5 : c.map (bkE num den) = ((l.map lowV).foldl (push ms ts) []).reverse := by
  rw [← hC, nrm_fold, List.map_reverse, hf]
 rw [nrm_fold ms ts (c.map (fun x => (fastV den num x).2)), e3, e5, nrm_fold ms ts l, ← fold_norm hm (l.map lowV) [] []]
 rfl
theorem cut_join {ms ts y : Int} {l : List Ed} (h1 : (cutV ms ts 0 y l).2 = 0) (h2 : (cutV ms ts y 1099511627776 l).2 = 0) : joinV ms ts (cutV ms ts 0 y l).1 (cutV ms ts y 1099511627776 l).1 = (nrm ms ts l, 0) := by
 obtain ⟨hk, hk1, ok1, -⟩ := cutV_med h1
 obtain ⟨-, hk2, ok2, -⟩ := cutV_med h2
 obtain ⟨hc, hl, hV, hs⟩ := chk_ok.1 hk
 have hm : ms ≠ 0 := by have := hc.m0; omega
 have form : ∀ fr te, (cutV ms ts fr te l).2 = 0 → cutOk fr te → (cutV ms ts fr te l).1 = nrm ms ts (pcs ms ts fr te 0 l) ∧ pok ms ts fr te 0 l := by
  intro fr te h ok
  unfold cutV at h ⊢
  rw [if_pos hk, if_pos ok] at h ⊢
  obtain ⟨a1, a2⟩ := cutL_ok l [] 0 h
  rw [List.nil_append] at a2
  rw [a2] at h ⊢
  rw [(nrmV_ok hc (pcs_vd hc ok.1.1 ok.2.1.2 l 0 (by omega) a1 hV) h).1]
  exact ⟨rfl, a1⟩
 obtain ⟨f1, p1⟩ := form 0 y h1 ok1
 obtain ⟨f2, p2⟩ := form y 1099511627776 h2 ok2
 rw [f1] at hk1 ⊢
 rw [f2] at hk2 ⊢
 have hy := ok2.1
 have key : nrm ms ts (nrm ms ts (pcs ms ts 0 y 0 l) ++ nrm ms ts (pcs ms ts y 1099511627776 0 l)) = nrm ms ts l := by
  rw [nrm_join hm, nrm_fold, nrm_fold ms ts l, cut_two hc hy.1 hy.2 l 0 [] (by omega) (by omega) p2 hV]
 unfold joinV
 rw [if_pos hk1, if_pos hk2, nrmV_of (by rw [← nrm_sum ms ts, key, nrm_sum]; exact hs) (by rw [key]; have := nrm_len ms ts l; omega), key]
theorem pure_Pt (l : List Ed) (ms ts y num den : Int) : Ev (fun k => dioramalaw10_EditParts.f k l ms ts y num den) true := by
 have aw : Ev (fun k => (dioramalaw10_awake.f k).bind fun t => (some t)) true := Ev.bind awake_f (Ev.now _)
 have eqs : ∀ a b : List Ed, a.length ≤ 1000000 → a = b → Ev (fun k => dioramaref00_EqEdits.f k a b) true := by
  intro a b hl h
  have := eqEdits_f a b hl
  rwa [decide_eq_true h] at this
 have nrmLen : (norV ms ts l).1.length ≤ 20 := by
  unfold norV
  split
  ·rename_i h
   have := nrm_len ms ts l
   have := (chk_ok.1 h).2.1
   simp only
   omega
  ·simp
 have j1 : Ev (fun k => dioramalaw10_EditParts.j1 k (norV ms ts l).1 (norV ms ts l).2 l ms ts num den) true := by
  refine Ev.step (fun k => by rw [dioramalaw10_EditParts.j1]) ?_
  refine Ev.bind (Faster_f l ms ts num den) (Ev.bind (Faster_f _ ms ts den num) ?_)
  by_cases h0 : (norV ms ts l).2 = 0
  ·refine Ev.congr (fun k => if_pos h0) ?_
   by_cases h1 : (fasV ms ts num den l).2 = 0
   ·refine Ev.congr (fun k => if_pos h1) ?_
    by_cases h2 : (fasV ms ts den num (fasV ms ts num den l).1).2 = 0
    ·refine Ev.congr (fun k => if_pos h2) ?_
     have hk := (fas_med h1).1
     refine Ev.bind (eqs _ _ (by have := fasV_len ms ts den num (fasV ms ts num den l).1; omega) ?_) (Ev.congr (fun k => if_pos rfl) aw)
     rw [fas_back h1 h2]
     unfold norV
     rw [if_pos hk]
    ·exact Ev.congr (fun k => if_neg h2) aw
   ·exact Ev.congr (fun k => if_neg h1) aw
  ·exact Ev.congr (fun k => if_neg h0) aw
 have off : Ev (fun k => dioramalaw10_EditParts.j0 k (norV ms ts l).1 (norV ms ts l).2 (cutV ms ts 0 y l).1 (cutV ms ts y 1099511627776 l).1 false l ms ts num den) true :=
  Ev.step (fun k => by rw [dioramalaw10_EditParts.j0]) (Ev.congr (fun k => if_neg (by decide)) j1)
 refine Ev.congr (f := fun k => if 60 < l.length then ((dioramalaw10_awake.f k).bind fun t => (some t)) else ((edit_Normal.f k l ms ts).bind fun b1 => ((edit_Cut.f k l ms ts 0 y).bind fun b2 => ((edit_Cut.f k l ms ts y 1099511627776).bind fun b3 => (if b1.2 = 0 then (if b2.2 = 0 then (dioramalaw10_EditParts.j0 k b1.1 b1.2 b2.1 b3.1 (b3.2 == 0) l ms ts num den) else (dioramalaw10_EditParts.j0 k b1.1 b1.2 b2.1 b3.1 false l ms ts num den)) else (dioramalaw10_EditParts.j0 k b1.1 b1.2 b2.1 b3.1 false l ms ts num den)))))) (fun k => ?_) ?_
 ·unfold dioramalaw10_EditParts.f
  rw [many_f]
  simp only [Option.bind_some, decide_eq_true_eq]
 by_cases h1 : 60 < l.length
 ·exact Ev.congr (fun k => if_pos h1) aw
 refine Ev.congr (fun k => if_neg h1) (Ev.bind (Normal_f l ms ts) (Ev.bind (Cut_f l ms ts 0 y) (Ev.bind (Cut_f l ms ts y 1099511627776) ?_)))
 by_cases h2 : (norV ms ts l).2 = 0
 ·refine Ev.congr (fun k => if_pos h2) ?_
  by_cases h3 : (cutV ms ts 0 y l).2 = 0
  ·refine Ev.congr (fun k => if_pos h3) ?_
   by_cases h4 : (cutV ms ts y 1099511627776 l).2 = 0
   ·rw [show ((cutV ms ts y 1099511627776 l).2 == 0) = true by rw [h4]; rfl]
    have hk := (cutV_med h3).1
    refine Ev.step (fun k => by rw [dioramalaw10_EditParts.j0]) (Ev.congr (fun k => if_pos rfl) ?_)
    unfold edit_Join.f
    rw [cut_join h3 h4]
    simp only [Option.bind_some]
    refine Ev.congr (fun k => if_pos (by first | trivial | rfl)) (Ev.bind (eqs _ _ ?_ ?_) (Ev.congr (fun k => if_pos rfl) j1))
    ·have := nrm_len ms ts l
     have := (chk_ok.1 hk).2.1
     omega
    ·unfold norV
     rw [if_pos hk]
   ·rw [show ((cutV ms ts y 1099511627776 l).2 == 0) = false by simpa using h4]
    exact off
  ·exact Ev.congr (fun k => if_neg h3) off
 ·exact Ev.congr (fun k => if_neg h2) off
theorem walk_Pt (a : Option Addr) (len c : Nat) (l : List Ed) (ms ts y num den : Int) (w : World) (h : Eds w a len c l) (_ : (Lit.int .i64 ms).wf = true) (_ : (Lit.int .i64 ts).wf = true) (_ : (Lit.int .i64 y).wf = true) (_ : (Lit.int .i64 num).wf = true) (_ : (Lit.int .i64 den).wf = true) :
  Calls Try.prog 15 #[.agg #[.slice a len c, .int .i64 ms, .int .i64 ts], .int .i64 y, .agg #[.int .i64 num, .int .i64 den]] w (fun e w' => e = .returned (.bool true) ∧ Below w.heap.size w w') := by
 obtain ⟨k, hk⟩ := (pure_Pt l ms ts y num den).rounds
 rw [← h.n]
 exact dioramalaw10_EditParts.calls k a c l ms ts y num den true w h.c h.h hk
end Go.Proofs.Ytpbhepdgamoiaaa.Pt
namespace Go.Proofs.Ytpbhepdgamoiaaa.editPartsRow
open Go.ChangeShapes Go.WideShapes Go.ChangeAt Go.RowKit Go.Proofs.Ytpbhepdgamoiaaa.Oe
set_option linter.unusedVariables false
set_option maxRecDepth 100000 in
theorem lifted (os : Os) (started : os.Started) (H : Type) (enc : TypeId × Value → H) :
  ReturnsInHanded {} Try.checked os 15 .any (Rows.editPartsSpec.pre6 enc Try.prog Try.f15 Rows.editPartsRow.domain false) (Rows.editPartsSpec.post enc Try.prog Try.f15 false true false false) := by
 refine returnsInHanded_of_change_sized (C := Try.checked) own started (by kernel_rfl) Try.func15
  (ChangeSpec.witness6 (enc := enc) (C := Try.checked) false ⟨#[], #[.agg #[.slice none 0 0, .int .i64 0, .int .i64 0], .int .i64 0, .agg #[.int .i64 0, .int .i64 0]], []⟩ 8 (by kernel_rfl) (by kernel_rfl) (by kernel_rfl) (by kernel_rfl)) ?_
 intro W base args ds gs before hval0 hW hcnd hsz0 _
 have hval : ∀ (j : Nat) t v, Try.f15.params[j]? = some t → args[j]? = some v → Value.okWide Try.prog W .any base t v := hval0
 have hW' := hW
 obtain ⟨p, q, hA0, hV, rfl, hfz, hnd⟩ := hW
 have hA : DataW.TrodAll enc Try.prog W 0 (fun _ => true) true Try.f15.params.toList args.toList ds p := hA0
 rw [Try.params15] at hA hval
 obtain ⟨v0, vs0, d0, ds0, p0, q0, hargs, rfl, rfl, h0, r0⟩ := trodAll_cons hA
 obtain ⟨v1, vs1, d1, ds1, p1, q1, rfl, rfl, rfl, h1, r1⟩ := trodAll_cons r0
 obtain ⟨v2, vs2, d2, ds2, p2, q2, rfl, rfl, rfl, h2, r2⟩ := trodAll_cons r1
 obtain ⟨rfl, rfl, rfl⟩ := trodAll_nil r2
 obtain rfl : args = #[v0, v1, v2] := by cases args; simp_all
 obtain ⟨rfl, rfl⟩ := trodVars_none hV
 have k0 := h0
 have lt0 : ∀ x ∈ p0, x.block < W.heap.size := by obtain ⟨m, hm⟩ := k0; exact DataW.trod_lt m _ _ _ hm
 obtain ⟨a0, len0, cap0, z0, m0, t0, rfl, w0, wm0, wt0⟩ := open_list (hval 0 24 v0 rfl rfl) h0
 obtain ⟨a1, rfl, rfl, rfl, w1⟩ := open_int Try.underlying3 (hval 1 3 v1 rfl rfl) h1
 have k2 := h2
 have lt2 : ∀ x ∈ p2, x.block < W.heap.size := by obtain ⟨m, hm⟩ := k2; exact DataW.trod_lt m _ _ _ hm
 obtain ⟨a2_0, a2_1, rfl, w2_0, w2_1⟩ := open_rate (hval 2 44 v2 rfl rfl) h2
 clear hA0 hval0 hsz0
 refine (Pt.walk_Pt a0 len0 cap0 z0 m0 t0 a1 a2_0 a2_1 W w0 wm0 wt0 w1 w2_0 w2_1).mono fun e W' ⟨he, bel⟩ => ?_
 subst he
 exact ⟨_, rfl, _, _, _, [], _, [], hW', trodAll_mk1 (shut_bool Try.underlying4 _), (trodAll_cons_mk (Below.trod laidOut (by kernel_rfl) (of_decide_eq_true (by kernel_rfl)) k0 bel lt0) (trodAll_cons_mk (shut_int Try.underlying3 w1) (trodAll_cons_mk (Below.trod laidOut (by kernel_rfl) (of_decide_eq_true (by kernel_rfl)) k2 bel lt2) trodAll_mk0))), rfl, bel.frame _, fun h => by cases h⟩
theorem over : Rows.editPartsRow.holds Try.pinned (OpenSpec.ofChange Rows.editPartsSpec) :=
 OpenClaim.holds_of_wide 15 Try.f15 rfl rfl rfl rfl rfl rfl rfl ⟨rfl, rfl, rfl, rfl, rfl⟩ rfl rfl rfl rfl rfl (by kernel_rfl) Try.func15 (by kernel_rfl)
  (of_decide_eq_true (by kernel_rfl)) (by unfold Func.isWrapper; first | (rw [if_pos (by decide +kernel)]; kernel_rfl) | (rw [if_neg (by decide +kernel)]; exact ⟨rfl, rfl⟩))
  (fun os started H enc _ => lifted os started H enc)
end Go.Proofs.Ytpbhepdgamoiaaa.editPartsRow
namespace Go.Proofs.Ytpbhepdgamoiaaa
theorem editParts_holds : Rows.EditPartsSaid := editPartsRow.over
#print axioms editParts_holds
end Go.Proofs.Ytpbhepdgamoiaaa

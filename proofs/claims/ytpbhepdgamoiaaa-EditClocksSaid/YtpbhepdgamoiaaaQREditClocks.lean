/-
  EditClocks: for every input the law returns true. The reference's natural numbers: sums, differences, products, quotients, small ones. The reference divides. Lists of edits as plain values: the first error, the normal list, the length; and that the code tells them. The normal list of a list of edits as a plain value, and that the code tells it. The reference's rational numbers as rational numbers. Whether lists are equal, alike; the first example of the chapter. The reference's normal list is the same. What the reference tells of a list: its normal list, its first error, its length. The reference's whole number of a rational number. The reference's first error and length; lists compared. Two lists of edits with their errors, compared. EditFaster: a list that is so many times as fast is as the reference says. EditClocks: a list by other clocks is as the reference says. EditClocks: for every input the law returns true.
-/
import Derived.Test.YtpbhepdgamoiaaaQREditClocksd
import Derived.Test.YtpbhepdgamoiaaaQREditClocksb
import Derived.Test.YtpbhepdgamoiaaaRows
import Derived.WalkKit
import Derived.ProofKit
import Derived.OpenShut
import Derived.ChangeOld
import Derived.Below
import Derived.SizedLaws
import Derived.Carry
namespace Go.Proofs.Ytpbhepdgamoiaaa.Pb
open Go.RowKit Go.Proofs.Ytpbhepdgamoiaaa.P Go.Proofs.Ytpbhepdgamoiaaa.E Go.Proofs.YtpbhepdgamoiaaaW.PrintWords Go.Proofs.YtpbhepdgamoiaaaW.PrintLast Go.Proofs.Ytpbhepdgamoiaaa.Ml Go.Proofs.Ytpbhepdgamoiaaa.Mn Go.Proofs.Ytpbhepdgamoiaaa.Pa
set_option linter.unusedVariables false
set_option linter.unusedSimpArgs false
theorem nv_take_all {l : List Int} {n : Nat} (h : l.length ≤ n) : dv 1000000000 (l.take n) = dv 1000000000 l := by rw [List.take_of_length_le h]
theorem dg_snoc {l : List Int} {x : Int} (h : Dg 1000000000 l) (h0 : 0 ≤ x) (h1 : x < 1000000000) : Dg 1000000000 (l ++ [x]) := h.append (Dg.cons h0 h1 (Dg.nil _))
theorem w1 {i : Nat} (h : i ≤ 10000000) : wrap64 ((i : Int) + 1) = ((i + 1 : Nat) : Int) := by rw [w64 (by omega) (by omega)]; omega
theorem minus_l (a b : List Int) (ha : Dg 1000000000 a) (hb : Dg 1000000000 b) (hn : a.length ≤ 1000000) (hlb : b.length ≤ a.length) (hle : dv 1000000000 b ≤ dv 1000000000 a) :
  ∀ (d i : Nat) (out : List Int) (c : Int), i + d = a.length → out.length = i → Dg 1000000000 out → 0 ≤ c → c ≤ 1 → dv 1000000000 out = dv 1000000000 (a.take i) - dv 1000000000 (b.take i) + c * pw 1000000000 i →
  ∃ r, Ev (fun k => dioramaref02_Minus.l0 k a b out c (i : Int)) r ∧ Nn r ∧ dv 1000000000 r = dv 1000000000 a - dv 1000000000 b ∧ r.length ≤ a.length := by
 intro d
 induction d with
 | zero =>
  intro i out c hi hl hd h0 h1 hv
  obtain ⟨r, he, hc, hr, hlr⟩ := trimmed_f out hd (by omega)
  have hlt := dv_lt (by decide) hd
  rw [hl] at hlt
  rw [nv_take_all (by omega), nv_take_all (by omega)] at hv
  have c0 : c = 0 := by
   rcases (show c = 0 ∨ c = 1 by omega) with h | h
   ·exact h
   ·rw [h] at hv
    omega
  refine ⟨r, Ev.step (f := fun k => (dioramaref02_trimmed.f k out).bind fun t => some t) (fun k => ?_) (Ev.bind he (Ev.now _)), hc, by rw [hr, hv, c0]; omega, by omega⟩
  simp only [dioramaref02_Minus.l0]
  rw [if_neg (by omega)]
 | succ d ih =>
  intro i out c hi hl hd h0 h1 hv
  have hx := ha.getD (by decide) i
  have hy := hb.getD (by decide) i
  have e1 := dv_take_succ' 1000000000 a i
  have e2 := dv_take_succ' 1000000000 b i
  have e3 := pw_succ 1000000000 i
  generalize hxv : a.getD i 0 = x at *
  generalize hyv : b.getD i 0 = y at *
  have hw : wrap64 (wrap64 (x - y) - c) = x - y - c := by rw [w64 (x := x - y) (by omega) (by omega), w64 (by omega) (by omega)]
  have hw2 : wrap64 (x - y - c + 1000000000) = x - y - c + 1000000000 := w64 (by omega) (by omega)
  by_cases hneg : x - y - c < 0
  ·obtain ⟨r, he, h⟩ := ih (i + 1) (out ++ [x - y - c + 1000000000]) 1 (by omega) (by simp [hl]) (dg_snoc hd (by omega) (by omega)) (by decide) (by decide) (by
    rw [dv_snoc, hl, hv, e1, e2, e3]
    grind)
   refine ⟨r, Ev.step (fun k => ?_) he, h⟩
   simp only [dioramaref02_Minus.l0]
   rw [if_pos (by omega), digit_f, digit_f, hxv, hyv]
   simp only [Option.bind_some, hw, hw2]
   rw [if_pos hneg, if_pos (by omega), w1 (by omega)]
  ·obtain ⟨r, he, h⟩ := ih (i + 1) (out ++ [x - y - c]) 0 (by omega) (by simp [hl]) (dg_snoc hd (by omega) (by omega)) (by decide) (by decide) (by
    rw [dv_snoc, hl, hv, e1, e2]
    grind)
   refine ⟨r, Ev.step (fun k => ?_) he, h⟩
   simp only [dioramaref02_Minus.l0]
   rw [if_pos (by omega), digit_f, digit_f, hxv, hyv]
   simp only [Option.bind_some, hw, hw2]
   rw [if_neg hneg, if_pos (by omega), w1 (by omega)]
theorem len_le {a b : List Int} (ha : Nn a) (hb : Nn b) (h : dv 1000000000 b ≤ dv 1000000000 a) : b.length ≤ a.length := by
 refine Nat.le_of_not_lt fun hl => ?_
 have := dv_len (by decide) ha.dg hb hl
 omega
theorem minus_f (a b : List Int) (ha : Nn a) (hb : Nn b) (hn : a.length ≤ 1000000) (hle : dv 1000000000 b ≤ dv 1000000000 a) : ∃ r, Ev (fun k => dioramaref02_Minus.f k a b) r ∧ Nn r ∧ dv 1000000000 r = dv 1000000000 a - dv 1000000000 b ∧ r.length ≤ a.length :=
 minus_l a b ha.dg hb.dg hn (len_le ha hb hle) hle a.length 0 [] 0 (by omega) rfl (Dg.nil _) (by decide) (by decide) (by simp [dv])
theorem plus_l (a b : List Int) (ha : Nn a) (hb : Nn b) (hn : a.length ≤ 1000000) (hm : b.length ≤ 1000000) :
  ∀ (d i : Nat) (out : List Int) (c : Int), i + d = max a.length b.length + 1 → out.length = i → Dg 1000000000 out → 0 ≤ c → c ≤ 1 → (i ≤ max a.length b.length ∨ c = 0) → (i < a.length ∨ i < b.length ∨ 0 < c ∨ Top out) → dv 1000000000 out = dv 1000000000 (a.take i) + dv 1000000000 (b.take i) - c * pw 1000000000 i →
  ∃ r, Ev (fun k => dioramaref02_Plus.l0 k a b out c (i : Int)) r ∧ Nn r ∧ dv 1000000000 r = dv 1000000000 a + dv 1000000000 b ∧ r.length ≤ max a.length b.length + 1 := by
 intro d
 induction d with
 | zero =>
  intro i out c hi hl hd h0 h1 hic ht hv
  have c0 : c = 0 := by omega
  subst c0
  rw [nv_take_all (by omega), nv_take_all (by omega)] at hv
  refine ⟨out, Ev.step (f := fun k => dioramaref02_Plus.j1 k a b out 0 (i : Int) (decide ((0 : Int) > 0))) (fun k => ?_) (Ev.step (f := fun _ => some out) (fun k => ?_) (Ev.now _)), ⟨hd, ?_⟩, by rw [hv]; omega, by omega⟩
  ·simp only [dioramaref02_Plus.l0]
   rw [if_neg (by omega), if_neg (by omega)]
  ·simp [dioramaref02_Plus.j1]
  ·rcases ht with h | h | h | h
   ·omega
   ·omega
   ·omega
   ·exact h
 | succ d ih =>
  intro i out c hi hl hd h0 h1 hic ht hv
  by_cases hgo : i < a.length ∨ i < b.length ∨ 0 < c
  ·have hx := ha.dg.getD (by decide) i
   have hy := hb.dg.getD (by decide) i
   have e1 := dv_take_succ' 1000000000 a i
   have e2 := dv_take_succ' 1000000000 b i
   have e3 := pw_succ 1000000000 i
   have zx : a.length ≤ i → a.getD i 0 = 0 := fun h => getD_ge h
   have zy : b.length ≤ i → b.getD i 0 = 0 := fun h => getD_ge h
   have tx : i + 1 = a.length → a.getD i 0 ≠ 0 := fun h => by have := top_getD ha.top (by omega); rwa [← h, Nat.add_sub_cancel] at this
   have ty : i + 1 = b.length → b.getD i 0 ≠ 0 := fun h => by have := top_getD hb.top (by omega); rwa [← h, Nat.add_sub_cancel] at this
   generalize hxv : a.getD i 0 = x at *
   generalize hyv : b.getD i 0 = y at *
   have hw : wrap64 (wrap64 (x + y) + c) = x + y + c := by rw [w64 (x := x + y) (by omega) (by omega), w64 (by omega) (by omega)]
   have hw2 : wrap64 ((x + y + c) / 1000000000) = (x + y + c) / 1000000000 := w64 (by omega) (by omega)
   obtain ⟨r, he, h⟩ := ih (i + 1) (out ++ [(x + y + c) % 1000000000]) ((x + y + c) / 1000000000) (by omega) (by simp [hl]) (dg_snoc hd (by omega) (by omega)) (by omega) (by omega)
    (by
     by_cases hmx : i < max a.length b.length
     ·left; omega
     ·right
      rw [zx (by omega), zy (by omega)]
      omega)
    (by
     by_cases g1 : i + 1 < a.length
     ·exact .inl g1
     ·by_cases g2 : i + 1 < b.length
      ·exact .inr (.inl g2)
      ·by_cases g3 : 0 < (x + y + c) / 1000000000
       ·exact .inr (.inr (.inl g3))
       ·refine .inr (.inr (.inr (top_of_getD ?_)))
        have hne : (x + y + c) % 1000000000 ≠ 0 := by
         rcases hgo with g | g | g
         ·have := tx (by omega); omega
         ·have := ty (by omega); omega
         ·omega
        simp only [List.length_append, List.length_singleton, Nat.add_sub_cancel]
        rw [List.getD_eq_getElem?_getD, List.getElem?_append_right (Nat.le_refl _)]
        simpa using hne)
    (by
     rw [dv_snoc, hl, hv, e1, e2, e3]
     have hdm := Int.mul_ediv_add_emod (x + y + c) 1000000000
     generalize (x + y + c) / 1000000000 = Q at *
     generalize (x + y + c) % 1000000000 = R at *
     have : R = x + y + c - 1000000000 * Q := by omega
     subst this
     grind)
   refine ⟨r, ?_, h⟩
   have hj : Ev (fun k => dioramaref02_Plus.j1 k a b out c (i : Int) true) r := by
    refine Ev.step (fun k => ?_) he
    simp only [dioramaref02_Plus.j1, if_true]
    rw [digit_f, digit_f, hxv, hyv]
    simp only [Option.bind_some, hw]
    rw [if_pos (by omega), tmodB (by omega), tdivB (by omega), hw2, w1 (by omega)]
   refine Ev.step (fun k => ?_) hj
   simp only [dioramaref02_Plus.l0]
   by_cases g1 : i < a.length
   ·rw [if_pos (by omega)]
   ·rw [if_neg (by omega)]
    by_cases g2 : i < b.length
    ·rw [if_pos (by omega)]
    ·rw [if_neg (by omega), decide_eq_true (show c > 0 by omega)]
  ·have c0 : c = 0 := by omega
   subst c0
   rw [nv_take_all (by omega), nv_take_all (by omega)] at hv
   refine ⟨out, Ev.step (f := fun k => dioramaref02_Plus.j1 k a b out 0 (i : Int) (decide ((0 : Int) > 0))) (fun k => ?_) (Ev.step (f := fun _ => some out) (fun k => ?_) (Ev.now _)), ⟨hd, ?_⟩, by rw [hv]; omega, by omega⟩
   ·simp only [dioramaref02_Plus.l0]
    rw [if_neg (by omega), if_neg (by omega)]
   ·simp [dioramaref02_Plus.j1]
   ·rcases ht with h | h | h | h
    ·omega
    ·omega
    ·omega
    ·exact h
theorem plus_f (a b : List Int) (ha : Nn a) (hb : Nn b) (hn : a.length ≤ 1000000) (hm : b.length ≤ 1000000) : ∃ r, Ev (fun k => dioramaref02_Plus.f k a b) r ∧ Nn r ∧ dv 1000000000 r = dv 1000000000 a + dv 1000000000 b ∧ r.length ≤ max a.length b.length + 1 :=
 plus_l a b ha hb hn hm (max a.length b.length + 1) 0 [] 0 (by omega) rfl (Dg.nil _) (by decide) (by decide) (.inr rfl) (.inr (.inr (.inr (fun h => absurd rfl h)))) (by simp [dv])
theorem mulB {c x y o : Int} (hc0 : 0 ≤ c) (hc1 : c < 1000000000) (hx0 : 0 ≤ x) (hx1 : x < 1000000000) (hy0 : 0 ≤ y) (hy1 : y < 1000000000) (ho0 : 0 ≤ o) (ho1 : o < 1000000000) :
  wrap64 (wrap64 (o + wrap64 (x * y)) + c) = o + x * y + c ∧ 0 ≤ o + x * y + c ∧ wrap64 (Int.tdiv (o + x * y + c) 1000000000) = (o + x * y + c) / 1000000000 ∧ (o + x * y + c) / 1000000000 < 1000000000 := by
 obtain ⟨h1, h2⟩ := mul_lt_sq hx0 hx1 hy0 hy1
 have h2' : x * y ≤ 999999998000000001 := h2
 rw [w64 (x := x * y) (by omega) (by omega), w64 (x := o + x * y) (by omega) (by omega), w64 (x := o + x * y + c) (by omega) (by omega), tdivB (by omega), w64 (by omega) (by omega)]
 refine ⟨rfl, by omega, rfl, by omega⟩
set_option maxHeartbeats 1000000 in
theorem times_l1 (a b : List Int) (i : Nat) (x : Int) (hx : a.getD i 0 = x) (hi : i < a.length) (hb : Dg 1000000000 b) (hx0 : 0 ≤ x) (hx1 : x < 1000000000) (hn : a.length + b.length ≤ 1000000) :
  ∀ (d j : Nat) (out : List Int) (c : Int), j + d = b.length → Dg 1000000000 out → out.length = a.length + b.length → 0 ≤ c → c < 1000000000 → (∀ m, i + b.length ≤ m → out.getD m 0 = 0) →
  ∃ out', (∀ r, Ev (fun k => dioramaref02_Times.l0 k a b out' ((i + 1 : Nat) : Int)) r → Ev (fun k => dioramaref02_Times.l1 k a b out (i : Int) c (j : Int)) r) ∧ out'.length = a.length + b.length ∧ Dg 1000000000 out' ∧
   dv 1000000000 out' = dv 1000000000 out + c * pw 1000000000 (i + j) + x * dv 1000000000 (b.drop j) * pw 1000000000 (i + j) ∧ ∀ m, i + 1 + b.length ≤ m → out'.getD m 0 = 0 := by
 intro d
 induction d with
 | zero =>
  intro j out c hj hd hl h0 h1 hz
  obtain rfl : j = b.length := by omega
  have hend : ∀ (out : List Int) (j : Nat) r, b.length ≤ j → Ev (fun k => dioramaref02_Times.l0 k a b out ((i + 1 : Nat) : Int)) r → Ev (fun k => dioramaref02_Times.l1 k a b out (i : Int) 0 (j : Int)) r := by
   intro out j r hj he
   refine Ev.step (fun k => ?_) he
   simp only [dioramaref02_Times.l1]
   rw [if_neg (by omega), if_neg (by omega), w1 (by omega)]
  rw [List.drop_of_length_le (Nat.le_refl _)]
  by_cases hc : c = 0
  ·subst hc
   exact ⟨out, fun r he => hend out _ r (Nat.le_refl _) he, hl, hd, by simp [dv], fun m hm => hz m (by omega)⟩
  ·refine ⟨out.set (i + b.length) c, fun r he => ?_, by simp [hl], hd.set _ h0 h1, ?_, fun m hm => by rw [getD_set (by omega)]; exact hz m (by omega)⟩
   ·have h2 := hend (out.set (i + b.length) c) (b.length + 1) r (by omega) he
    refine Ev.step (fun k => ?_) h2
    have hw : wrap64 ((i : Int) + (b.length : Int)) = ((i + b.length : Nat) : Int) := by rw [w64 (by omega) (by omega)]; omega
    obtain ⟨g1, g2, g3, g4⟩ := mulB (o := 0) (y := 0) h0 h1 hx0 hx1 (by decide) (by decide) (by decide) (by decide)
    have e0 : (0 : Int) + x * 0 + c = c := by omega
    rw [e0] at g1 g3
    simp only [dioramaref02_Times.l1, hw, rd_nat, hx, Int.toNat_natCast]
    rw [if_neg (by omega), if_pos (by omega), if_pos (by omega), if_pos (by omega), if_pos (by omega), if_pos (by omega), digit_f, getD_ge (Nat.le_refl _), hz _ (Nat.le_refl _)]
    simp only [Option.bind_some, g1, g3]
    rw [tmodB h0, Int.emod_eq_of_lt h0 h1, Int.ediv_eq_zero_of_lt h0 h1, w1 (by omega)]
   ·rw [dv_set _ _ _ _ (by omega), hz _ (Nat.le_refl _)]
    simp [dv]
 | succ d ih =>
  intro j out c hj hd hl h0 h1 hz
  have hy := hb.getD (by decide) j
  have ho := hd.getD (by decide) (i + j)
  have c1 : (j : Int) < (b.length : Int) := by omega
  have c2 : 0 ≤ ((i + j : Nat) : Int) := by omega
  have c3 : ((i + j : Nat) : Int) < (out.length : Int) := by omega
  have c4 : 0 ≤ (i : Int) := by omega
  have c5 : (i : Int) < (a.length : Int) := by omega
  have c6 : i + j < out.length := by omega
  have c7 : j < b.length := by omega
  have hw : wrap64 ((i : Int) + (j : Int)) = ((i + j : Nat) : Int) := by rw [w64 (by omega) (by omega)]; omega
  have hw1 := w1 (i := j) (by omega)
  have HW := Aside0.mk (And.intro hw hw1)
  clear hw hw1
  generalize hyv : b.getD j 0 = y at *
  generalize hov : out.getD (i + j) 0 = o at *
  obtain ⟨g1, g2, g3, g4⟩ := mulB h0 h1 hx0 hx1 hy.1 hy.2 ho.1 ho.2
  have gm := Int.mul_ediv_add_emod (o + x * y + c) 1000000000
  have gr0 := Int.emod_nonneg (o + x * y + c) (show (1000000000 : Int) ≠ 0 by decide)
  have gr1 := Int.emod_lt_of_pos (o + x * y + c) (show (0 : Int) < 1000000000 by decide)
  have gq0 : 0 ≤ (o + x * y + c) / 1000000000 := Int.ediv_nonneg g2 (by decide)
  have gt := tmodB g2
  generalize (o + x * y + c) / 1000000000 = q at *
  generalize (o + x * y + c) % 1000000000 = r' at *
  have hs : r' + 1000000000 * q = c + (x * y + o) := by clear g1 g3 gt; omega
  have HG := Aside0.mk (And.intro g1 (And.intro g3 gt))
  clear g1 g3 gt gm
  obtain ⟨out', k1, k2, k3, k4, k5⟩ := ih (j + 1) (out.set (i + j) r') q (by omega) (hd.set _ gr0 gr1) (by simp [hl]) gq0 g4 (fun m hm => by rw [getD_set (by omega)]; exact hz m hm)
  refine ⟨out', fun r he => ?_, k2, k3, ?_, k5⟩
  ·refine Ev.step (fun k => ?_) (k1 r he)
   simp only [dioramaref02_Times.l1, HW.out.1, rd_nat, hx, Int.toNat_natCast]
   rw [if_pos c1, if_pos c2, if_pos c3, if_pos c4, if_pos c5, digit_f, hyv, hov]
   simp only [Option.bind_some, HG.out.1, HG.out.2.1, HG.out.2.2, HW.out.2]
  ·rw [k4, dv_set _ _ _ _ c6, hov, dv_drop 1000000000 b j c7, hyv, ← Nat.add_assoc, pw_succ]
   exact (mul_step hs).symm
theorem times_l0 (a b : List Int) (ha : Dg 1000000000 a) (hb : Dg 1000000000 b) (hn : a.length + b.length ≤ 1000000) :
  ∀ (d i : Nat) (out : List Int), i + d = a.length → Dg 1000000000 out → out.length = a.length + b.length → dv 1000000000 out = dv 1000000000 (a.take i) * dv 1000000000 b → (∀ m, i + b.length ≤ m → out.getD m 0 = 0) →
  ∃ r, Ev (fun k => dioramaref02_Times.l0 k a b out (i : Int)) r ∧ Nn r ∧ dv 1000000000 r = dv 1000000000 a * dv 1000000000 b ∧ r.length ≤ a.length + b.length := by
 intro d
 induction d with
 | zero =>
  intro i out hi hd hl hv hz
  obtain ⟨r, he, hc, hr, hlr⟩ := trimmed_f out hd (by omega)
  refine ⟨r, Ev.step (f := fun k => (dioramaref02_trimmed.f k out).bind fun t => some t) (fun k => ?_) (Ev.bind he (Ev.now _)), hc, by rw [hr, hv, nv_take_all (by omega)], by omega⟩
  simp only [dioramaref02_Times.l0]
  rw [if_neg (by omega)]
 | succ d ih =>
  intro i out hi hd hl hv hz
  have hx := ha.getD (by decide) i
  obtain ⟨out', k1, k2, k3, k4, k5⟩ := times_l1 a b i (a.getD i 0) rfl (by omega) hb hx.1 hx.2 hn b.length 0 out 0 (by omega) hd hl (by decide) (by decide) hz
  obtain ⟨r, he, h⟩ := ih (i + 1) out' (by omega) k3 k2 (by
   rw [k4, hv, dv_take_succ' _ a i]
   simp only [List.drop_zero, Nat.add_zero]
   grind) (fun m hm => k5 m (by omega))
  refine ⟨r, Ev.step (fun k => ?_) (k1 r he), h⟩
  simp only [dioramaref02_Times.l0]
  rw [if_pos (by omega)]
  rfl
theorem times_f (a b : List Int) (ha : Nn a) (hb : Nn b) (hn : a.length + b.length ≤ 1000000) : ∃ r, Ev (fun k => dioramaref02_Times.f k a b) r ∧ Nn r ∧ dv 1000000000 r = dv 1000000000 a * dv 1000000000 b ∧ r.length ≤ a.length + b.length := by
 have e1 : wrap64 ((a.length : Int) + (b.length : Int)) = ((a.length + b.length : Nat) : Int) := by rw [w64 (by omega) (by omega)]; omega
 obtain ⟨r, he, h⟩ := times_l0 a b ha.dg hb.dg hn a.length 0 (List.replicate (a.length + b.length) 0) (by omega) (Dg.replicate (by decide) _) (by simp) (by rw [dv_replicate]; simp [dv]) (fun m _ => by
  rw [List.getD_eq_getElem?_getD, List.getElem?_replicate]
  split <;> rfl)
 refine ⟨r, Ev.congr (fun k => ?_) he, h⟩
 simp only [dioramaref02_Times.f, e1, Int.toNat_natCast]
 rw [if_pos (by omega), if_pos (by omega)]
 rfl
theorem drop_le (l : List Int) (hd : Dg 1000000000 l) (i : Nat) : dv 1000000000 (l.drop i) ≤ dv 1000000000 l ∧ 0 ≤ dv 1000000000 (l.drop i) := by
 have h0 := dv_nonneg (by decide) (hd.drop i)
 refine ⟨?_, h0⟩
 by_cases hi : i ≤ l.length
 ·have h1 := dv_split 1000000000 l i hi
  have h2 := dv_nonneg (by decide) (hd.take i)
  have h3 : 0 < pw 1000000000 i := pow_pos (by decide) i
  have h4 : 1 * dv 1000000000 (l.drop i) ≤ pw 1000000000 i * dv 1000000000 (l.drop i) := Int.mul_le_mul_of_nonneg_right (by omega) h0
  omega
 ·rw [List.drop_of_length_le (by omega)]
  exact dv_nonneg (by decide) hd
theorem small_l (l : List Int) (hd : Dg 1000000000 l) (hn : l.length ≤ 1000000) (hs : dv 1000000000 l ≤ 9223372036854775807) : ∀ i : Nat, i ≤ l.length → Ev (fun k => dioramaref02_Small.l0 k l (dv 1000000000 (l.drop i)) ((i : Int) - 1)) (dv 1000000000 l, true) := by
 intro i
 induction i with
 | zero =>
  intro _
  refine Ev.step (f := fun _ => some (dv 1000000000 l, true)) (fun k => ?_) (Ev.now _)
  simp [dioramaref02_Small.l0]
 | succ i ih =>
  intro hi
  have e : (((i + 1 : Nat) : Int) - 1) = (i : Int) := by omega
  have h1 := dv_drop 1000000000 l i (by omega)
  have h2 := drop_le l hd i
  have h3 := drop_le l hd (i + 1)
  have hx := hd.getD (by decide) i
  rw [e]
  refine Ev.step (fun k => ?_) (ih (by omega))
  simp only [dioramaref02_Small.l0, rd_nat]
  rw [if_pos (by omega), if_pos (by omega), if_pos (by omega), w64 (x := _ * 1000000000) (by omega) (by omega), w64 (x := _ + _) (by omega) (by omega), w64 (x := (i : Int) - 1) (by omega) (by omega), h1]
  congr 1
  omega
theorem small_f (l : List Int) (most : Int) (hl : Nn l) (hn : l.length ≤ 1000000) (h0 : 0 ≤ most) (h1 : most ≤ 9223372036854775807) : Ev (fun k => dioramaref02_Small.f k l most) (if most < dv 1000000000 l then (0, false) else (dv 1000000000 l, true)) := by
 obtain ⟨r, he, hr, hv, hlr⟩ := of_f most h0 h1
 have hc := compare_f l r hl hr hn (by omega)
 rw [hv] at hc
 by_cases hb : most < dv 1000000000 l
 ·rw [if_pos hb]
  rw [cmp2 hb] at hc
  exact Ev.bind he (Ev.bind hc (Ev.congr (f := fun _ => some (0, false)) (fun k => by simp) (Ev.now _)))
 ·rw [if_neg hb]
  have hle : ¬ (Nd.cmpI (dv 1000000000 l) most > 0) := by
   unfold Nd.cmpI
   by_cases h2 : dv 1000000000 l < most
   ·rw [if_pos h2]; decide
   ·rw [if_neg h2, if_neg hb]; decide
  have h2 := small_l l hl.dg hn (by omega) l.length (Nat.le_refl _)
  rw [List.drop_of_length_le (Nat.le_refl _)] at h2
  refine Ev.bind he (Ev.bind hc (Ev.congr (fun k => ?_) h2))
  rw [if_neg hle, w64 (by omega) (by omega)]
  rfl
end Go.Proofs.Ytpbhepdgamoiaaa.Pb
namespace Go.Proofs.Ytpbhepdgamoiaaa.Pc
open Go.RowKit Go.Proofs.Ytpbhepdgamoiaaa.P Go.Proofs.Ytpbhepdgamoiaaa.E Go.Proofs.YtpbhepdgamoiaaaW.PrintWords Go.Proofs.YtpbhepdgamoiaaaW.PrintLast Go.Proofs.Ytpbhepdgamoiaaa.Ml Go.Proofs.Ytpbhepdgamoiaaa.Mn Go.Proofs.Ytpbhepdgamoiaaa.Pa Go.Proofs.Ytpbhepdgamoiaaa.Pb
set_option linter.unusedVariables false
set_option linter.unusedSimpArgs false
theorem drop_set' {l : List Int} {i : Nat} {v : Int} : (l.set i v).drop (i + 1) = l.drop (i + 1) := by
 rw [List.drop_set]
 simp
theorem over_l1 (a b q rest : List Int) (i : Nat) (hb : Nn b) (hr : Nn rest) (hi : i < q.length) (hq : q.length ≤ 1000000) (hlb : b.length ≤ 100000) (hlr : rest.length ≤ 200000) (hbp : 0 < dv 1000000000 b) :
  ∀ (m : Nat) (low high : Int), high - low ≤ m → 0 ≤ low → low ≤ high → high ≤ 999999999 → low * dv 1000000000 b ≤ dv 1000000000 rest → dv 1000000000 rest < (high + 1) * dv 1000000000 b →
  ∃ t rest', 0 ≤ t ∧ t < 1000000000 ∧ Nn rest' ∧ dv 1000000000 rest = t * dv 1000000000 b + dv 1000000000 rest' ∧ dv 1000000000 rest' < dv 1000000000 b ∧ (∀ r, Ev (fun k => dioramaref02_Over.l0 k a b (q.set i t) rest' ((i : Int) - 1)) r → Ev (fun k => dioramaref02_Over.l1 k a b q rest (i : Int) low high) r) := by
 intro m
 induction m with
 | zero =>
  intro low high hm h0 h1 h2 hlo hhi
  obtain rfl : low = high := by omega
  obtain ⟨o, eo, ho, vo, lo⟩ := of_f low h0 (by omega)
  obtain ⟨p, ep, hp, vp, lp⟩ := times_f b o hb ho (by omega)
  have e1 : dv 1000000000 p = low * dv 1000000000 b := by rw [vp, vo, Int.mul_comm]
  obtain ⟨s, es, hs, vs, ls⟩ := minus_f rest p hr hp (by omega) (by omega)
  have e2 : (low + 1) * dv 1000000000 b = low * dv 1000000000 b + dv 1000000000 b := by rw [Int.add_mul]; omega
  refine ⟨low, s, h0, by omega, hs, by omega, by omega, fun r he => ?_⟩
  refine Ev.step (f := fun k => (dioramaref02_Of.f k low).bind fun t197 => ((dioramaref02_Times.f k b t197).bind fun t200 => ((dioramaref02_Minus.f k rest t200).bind fun t203 => (dioramaref02_Over.l0 k a b (q.set i low) t203 ((i : Int) - 1))))) (fun k => ?_) (Ev.bind eo (Ev.bind ep (Ev.bind es he)))
  simp only [dioramaref02_Over.l1, Int.toNat_natCast]
  rw [if_neg (by omega), if_pos (by omega), if_pos (by omega), w64 (by omega) (by omega)]
 | succ m ih =>
  intro low high hm h0 h1 h2 hlo hhi
  by_cases hlt : low < high
  ·have hmid : wrap64 (Int.tdiv (wrap64 (wrap64 (low + high) + 1)) 2) = (low + high + 1) / 2 := by
    rw [w64 (x := low + high) (by omega) (by omega), w64 (x := low + high + 1) (by omega) (by omega), Int.tdiv_eq_ediv_of_nonneg (by omega), w64 (by omega) (by omega)]
   have hm1 : low < (low + high + 1) / 2 := by omega
   have hm2 : (low + high + 1) / 2 ≤ high := by omega
   generalize (low + high + 1) / 2 = mid at *
   obtain ⟨o, eo, ho, vo, lo⟩ := of_f mid (by omega) (by omega)
   obtain ⟨p, ep, hp, vp, lp⟩ := times_f b o hb ho (by omega)
   have e1 : dv 1000000000 p = mid * dv 1000000000 b := by rw [vp, vo, Int.mul_comm]
   have ec := compare_f p rest hp hr (by omega) (by omega)
   rw [e1] at ec
   by_cases hc : mid * dv 1000000000 b ≤ dv 1000000000 rest
   ·obtain ⟨t, rest', g1, g2, g3, g4, g5, g6⟩ := ih mid high (by omega) (by omega) hm2 h2 hc hhi
    have hle : Nd.cmpI (mid * dv 1000000000 b) (dv 1000000000 rest) ≤ 0 := by
     unfold Nd.cmpI
     by_cases h2 : mid * dv 1000000000 b < dv 1000000000 rest
     ·rw [if_pos h2]; decide
     ·rw [if_neg h2, if_neg (by omega)]; decide
    refine ⟨t, rest', g1, g2, g3, g4, g5, fun r he => ?_⟩
    refine Ev.step (f := fun k => (dioramaref02_Of.f k mid).bind fun t206 => ((dioramaref02_Times.f k b t206).bind fun t209 => ((dioramaref02_Compare.f k t209 rest).bind fun t212 => (if t212 ≤ 0 then (dioramaref02_Over.l1 k a b q rest (i : Int) mid high) else (dioramaref02_Over.l1 k a b q rest (i : Int) low (wrap64 (mid - 1))))))) (fun k => ?_) (Ev.bind eo (Ev.bind ep (Ev.bind ec (Ev.congr (fun k => ?_) (g6 r he)))))
    ·simp only [dioramaref02_Over.l1, hmid]
     rw [if_pos hlt]
    ·rw [if_pos hle]
   ·have hw : wrap64 (mid - 1) = mid - 1 := w64 (by omega) (by omega)
    obtain ⟨t, rest', g1, g2, g3, g4, g5, g6⟩ := ih low (mid - 1) (by omega) h0 (by omega) (by omega) hlo (by rw [Int.sub_add_cancel]; omega)
    have hle : ¬ Nd.cmpI (mid * dv 1000000000 b) (dv 1000000000 rest) ≤ 0 := by
     rw [cmp2 (by omega)]; decide
    refine ⟨t, rest', g1, g2, g3, g4, g5, fun r he => ?_⟩
    refine Ev.step (f := fun k => (dioramaref02_Of.f k mid).bind fun t206 => ((dioramaref02_Times.f k b t206).bind fun t209 => ((dioramaref02_Compare.f k t209 rest).bind fun t212 => (if t212 ≤ 0 then (dioramaref02_Over.l1 k a b q rest (i : Int) mid high) else (dioramaref02_Over.l1 k a b q rest (i : Int) low (wrap64 (mid - 1))))))) (fun k => ?_) (Ev.bind eo (Ev.bind ep (Ev.bind ec (Ev.congr (fun k => ?_) (g6 r he)))))
    ·simp only [dioramaref02_Over.l1, hmid]
     rw [if_pos hlt]
    ·rw [if_neg hle, hw]
  ·exact ih low high (by omega) h0 h1 h2 hlo hhi
theorem over_l0 (a b : List Int) (ha : Dg 1000000000 a) (hb : Nn b) (hla : a.length ≤ 100000) (hlb : b.length ≤ 100000) (hbp : 0 < dv 1000000000 b) :
  ∀ (i : Nat) (q rest : List Int), i ≤ a.length → q.length = a.length → Dg 1000000000 q → Nn rest → dv 1000000000 rest < dv 1000000000 b → dv 1000000000 (a.drop i) = dv 1000000000 (q.drop i) * dv 1000000000 b + dv 1000000000 rest →
  ∃ r1 r2, Ev (fun k => dioramaref02_Over.l0 k a b q rest ((i : Int) - 1)) (r1, r2) ∧ Nn r1 ∧ Nn r2 ∧ dv 1000000000 a = dv 1000000000 r1 * dv 1000000000 b + dv 1000000000 r2 ∧ dv 1000000000 r2 < dv 1000000000 b ∧ r1.length ≤ a.length ∧ r2.length ≤ b.length := by
 have hlen : ∀ {l : List Int}, Nn l → dv 1000000000 l < dv 1000000000 b → l.length ≤ b.length := by
  intro l hl h
  refine Nat.le_of_not_lt fun h2 => ?_
  have := dv_len (by decide) hb.dg hl h2
  omega
 intro i
 induction i with
 | zero =>
  intro q rest _ hq dq hr hlt hv
  obtain ⟨r, he, hc, hvr, hlr⟩ := trimmed_f q dq (by omega)
  rw [List.drop_zero, List.drop_zero] at hv
  refine ⟨r, rest, Ev.step (f := fun k => (dioramaref02_trimmed.f k q).bind fun t => some (t, rest)) (fun k => ?_) (Ev.bind he (Ev.now _)), hc, hr, by rw [hvr]; exact hv, hlt, by omega, hlen hr hlt⟩
  simp [dioramaref02_Over.l0]
 | succ i ih =>
  intro q rest hi hq dq hr hlt hv
  have e : (((i + 1 : Nat) : Int) - 1) = (i : Int) := by omega
  have hx := ha.getD (by decide) i
  have hlr := hlen hr hlt
  obtain ⟨u, eu, hu, vu, lu⟩ := trimmed_f (a.getD i 0 :: rest) (Dg.cons hx.1 hx.2 hr.dg) (by simp; omega)
  have vu2 : dv 1000000000 u = a.getD i 0 + 1000000000 * dv 1000000000 rest := vu
  have r0 := dv_nonneg (by decide) hr.dg
  simp only [List.length_cons] at lu
  obtain ⟨t, rest', g1, g2, g3, g4, g5, g6⟩ := over_l1 a b q u i hb hu (by omega) (by omega) hlb (by omega) hbp 999999999 0 999999999 (by decide) (by decide) (by decide) (by decide) (by have := dv_nonneg (by decide) hu.dg ; omega) (by
   have : (1000000000 : Int) * (dv 1000000000 rest + 1) ≤ 1000000000 * dv 1000000000 b := Int.mul_le_mul_of_nonneg_left (by omega) (by decide)
   rw [vu2]
   omega)
  obtain ⟨r1, r2, he, h⟩ := ih (q.set i t) rest' (by omega) (by simpa using hq) (dq.set _ g1 g2) g3 g5 (by
   rw [dv_drop _ a i (by omega), dv_drop _ (q.set i t) i (by simp; omega), drop_set', getD_set_self (by omega), hv]
   have := vu2
   rw [g4] at this
   grind)
  refine ⟨r1, r2, ?_, h⟩
  rw [e]
  refine Ev.step (f := fun k => (dioramaref02_trimmed.f k (a.getD i 0 :: rest)).bind fun t193 => (dioramaref02_Over.l1 k a b q t193 (i : Int) 0 999999999)) (fun k => ?_) (Ev.bind eu (g6 _ he))
  simp only [dioramaref02_Over.l0, rd_nat, Option.bind_some, List.singleton_append, List.length_singleton]
  rw [if_pos (by omega), if_pos (by omega), if_pos (by omega), if_pos (by omega)]
theorem over_f (a b : List Int) (ha : Nn a) (hb : Nn b) (hla : a.length ≤ 100000) (hlb : b.length ≤ 100000) (hbp : 0 < dv 1000000000 b) :
  ∃ r1 r2, Ev (fun k => dioramaref02_Over.f k a b) (r1, r2) ∧ Nn r1 ∧ Nn r2 ∧ dv 1000000000 a = dv 1000000000 r1 * dv 1000000000 b + dv 1000000000 r2 ∧ dv 1000000000 r2 < dv 1000000000 b ∧ r1.length ≤ a.length ∧ r2.length ≤ b.length := by
 obtain ⟨r1, r2, he, h⟩ := over_l0 a b ha.dg hb hla hlb hbp a.length (List.replicate a.length 0) [] (Nat.le_refl _) (by simp) (Dg.replicate (by decide) _) (Cn.nil _) hbp (by rw [List.drop_of_length_le (Nat.le_refl _), List.drop_of_length_le (by simp)]; simp [dv])
 refine ⟨r1, r2, Ev.congr (fun k => ?_) he, h⟩
 simp only [dioramaref02_Over.f, Int.toNat_natCast]
 rw [if_pos (by omega), if_pos (by omega), w64 (by omega) (by omega)]
end Go.Proofs.Ytpbhepdgamoiaaa.Pc
namespace Go.Proofs.Ytpbhepdgamoiaaa.Pe
open Go.RowKit Go Go.Proofs.YtpbhepdgamoiaaaW.PrintWords Go.Proofs.YtpbhepdgamoiaaaW.PrintLast Go.Proofs.YtpbhepdgamoiaaaW.PrintMore Go.Proofs.Ytpbhepdgamoiaaa.Mn Go.Proofs.Ytpbhepdgamoiaaa.Rf Go.Proofs.Ytpbhepdgamoiaaa.Er Go.Proofs.Ytpbhepdgamoiaaa.Ek Go.Proofs.Ytpbhepdgamoiaaa.E
set_option linter.unusedVariables false
set_option linter.unusedSimpArgs false
abbrev Ed := S77
structure Vd (x : Ed) : Prop where
 d0 : 1 ≤ x.f0
 d1 : x.f0 ≤ 1099511627776
 m0 : -1 ≤ x.f1
 m1 : x.f1 ≤ 1099511627776
 n0 : 0 ≤ x.f2
 n1 : x.f2 ≤ 1000
 e0 : 1 ≤ x.f3
 e1 : x.f3 ≤ 1000
 em : x.f1 < 0 → x.f2 = 1 ∧ x.f3 = 1
instance (x : Ed) : Decidable (Vd x) :=
 decidable_of_iff (1 ≤ x.f0 ∧ x.f0 ≤ 1099511627776 ∧ -1 ≤ x.f1 ∧ x.f1 ≤ 1099511627776 ∧ 0 ≤ x.f2 ∧ x.f2 ≤ 1000 ∧ 1 ≤ x.f3 ∧ x.f3 ≤ 1000 ∧ (x.f1 < 0 → x.f2 = 1 ∧ x.f3 = 1))
  ⟨fun ⟨a, b, c, d, e, f, g, h, i⟩ => ⟨a, b, c, d, e, f, g, h, i⟩, fun h => ⟨h.d0, h.d1, h.m0, h.m1, h.n0, h.n1, h.e0, h.e1, h.em⟩⟩
structure Ck (ms ts : Int) : Prop where
 m0 : 1 ≤ ms
 m1 : ms ≤ 1000000
 t0 : 1 ≤ ts
 t1 : ts ≤ 1000000
instance (ms ts : Int) : Decidable (Ck ms ts) :=
 decidable_of_iff (1 ≤ ms ∧ ms ≤ 1000000 ∧ 1 ≤ ts ∧ ts ≤ 1000000) ⟨fun ⟨a, b, c, d⟩ => ⟨a, b, c, d⟩, fun h => ⟨h.m0, h.m1, h.t0, h.t1⟩⟩
theorem valid_f (x : Ed) : edit_valid.f x.f0 x.f1 x.f2 x.f3 = some true ∧ Vd x ∨ edit_valid.f x.f0 x.f1 x.f2 x.f3 = some false ∧ ¬ Vd x := by
 unfold edit_valid.f
 by_cases h1 : x.f0 < 1
 ·rw [if_pos h1]; exact .inr ⟨rfl, fun h => by have := h.d0; omega⟩
 rw [if_neg h1]
 by_cases h2 : x.f0 > 1099511627776
 ·rw [if_pos h2]; exact .inr ⟨rfl, fun h => by have := h.d1; omega⟩
 rw [if_neg h2]
 by_cases h3 : x.f1 < -1
 ·rw [if_pos h3]; exact .inr ⟨rfl, fun h => by have := h.m0; omega⟩
 rw [if_neg h3]
 by_cases h4 : x.f1 > 1099511627776
 ·rw [if_pos h4]; exact .inr ⟨rfl, fun h => by have := h.m1; omega⟩
 rw [if_neg h4]
 by_cases h5 : x.f2 < 0
 ·rw [if_pos h5]; exact .inr ⟨rfl, fun h => by have := h.n0; omega⟩
 rw [if_neg h5]
 by_cases h6 : x.f2 > 1000
 ·rw [if_pos h6]; exact .inr ⟨rfl, fun h => by have := h.n1; omega⟩
 rw [if_neg h6]
 by_cases h7 : x.f3 < 1
 ·rw [if_pos h7]; exact .inr ⟨rfl, fun h => by have := h.e0; omega⟩
 rw [if_neg h7]
 by_cases h8 : x.f3 > 1000
 ·rw [if_pos h8]; exact .inr ⟨rfl, fun h => by have := h.e1; omega⟩
 rw [if_neg h8]
 by_cases h9 : x.f1 ≥ 0
 ·rw [if_pos h9]; exact .inl ⟨rfl, ⟨by omega, by omega, by omega, by omega, by omega, by omega, by omega, by omega, fun h => by omega⟩⟩
 rw [if_neg h9]
 by_cases h10 : x.f2 = 1
 ·rw [if_pos h10]
  by_cases h11 : x.f3 = 1
  ·rw [h11]; exact .inl ⟨rfl, ⟨by omega, by omega, by omega, by omega, by omega, by omega, by omega, by omega, fun h => by omega⟩⟩
  ·exact .inr ⟨by simp [h11], fun h => by have := h.em (by omega); omega⟩
 ·rw [if_neg h10]; exact .inr ⟨rfl, fun h => by have := h.em (by omega); omega⟩
def chk (l : List Ed) (ms ts : Int) : Int := if ¬ Ck ms ts then 1 else if 20 < l.length then 2 else if (∀ x ∈ l, Vd x) ∧ sumD l ≤ 1099511627776 then 0 else 33
theorem chk_ok {l : List Ed} {ms ts : Int} : chk l ms ts = 0 ↔ Ck ms ts ∧ l.length ≤ 20 ∧ (∀ x ∈ l, Vd x) ∧ sumD l ≤ 1099511627776 := by
 unfold chk
 constructor
 ·intro h
  by_cases h1 : Ck ms ts
  ·rw [if_neg (not_not_intro h1)] at h
   by_cases h2 : 20 < l.length
   ·rw [if_pos h2] at h; cases h
   ·rw [if_neg h2] at h
    by_cases h3 : (∀ x ∈ l, Vd x) ∧ sumD l ≤ 1099511627776
    ·exact ⟨h1, by omega, h3.1, h3.2⟩
    ·rw [if_neg h3] at h; cases h
  ·rw [if_pos h1] at h; cases h
 ·rintro ⟨h1, h2, h3, h4⟩
  rw [if_neg (not_not_intro h1), if_neg (by omega), if_pos ⟨h3, h4⟩]
theorem rd_at (pre : List Ed) (x : Ed) (rest : List Ed) : rd_T77 (pre ++ x :: rest) (pre.length : Int) = x := by
 unfold rd_T77
 simp [List.getD_eq_getElem?_getD]
theorem sumD_nonneg {l : List Ed} (h : ∀ x ∈ l, Vd x) : 0 ≤ sumD l := by
 induction l with
 | nil => simp [sumD]
 | cons x t ih =>
  have h1 := (h x (by simp)).d0
  have h2 := ih (fun y hy => h y (by simp [hy]))
  simp only [sumD]
  omega
theorem sumD_le {l : List Ed} (h : ∀ x ∈ l, Vd x) : sumD l ≤ 1099511627776 * l.length := by
 induction l with
 | nil => simp [sumD]
 | cons x t ih =>
  have h1 := (h x (by simp)).d1
  have h2 := ih (fun y hy => h y (by simp [hy]))
  simp only [sumD, List.length_cons]
  omega
theorem check_l (l : List Ed) (hl : l.length ≤ 20) (rest : List Ed) : ∀ pre, l = pre ++ rest → (∀ x ∈ pre, Vd x) → Ev (fun k => edit_Check.l0 k (sumD pre) l (l.length : Int) (pre.length : Int)) (if (∀ x ∈ rest, Vd x) ∧ sumD l ≤ 1099511627776 then 0 else 33) := by
 induction rest with
 | nil =>
  intro pre he hp
  subst he
  refine Ev.step (f := fun _ => some (if (∀ x ∈ ([] : List Ed), Vd x) ∧ sumD (pre ++ []) ≤ 1099511627776 then 0 else 33)) (fun k => ?_) (Ev.now _)
  simp only [edit_Check.l0, List.append_nil]
  rw [if_neg (by omega)]
  by_cases h : sumD pre > 1099511627776
  ·rw [if_pos h, if_neg (by intro hh; omega)]
  ·rw [if_neg h, if_pos ⟨by simp, by omega⟩]
 | cons x t ih =>
  intro pre he hp
  have hlen : l.length = pre.length + (t.length + 1) := by rw [he]; simp
  have hx : rd_T77 l (pre.length : Int) = x := by rw [he]; exact rd_at pre x t
  rcases valid_f x with ⟨hv, hV⟩ | ⟨hv, hV⟩
  ·have hs : sumD (pre ++ [x]) = sumD pre + x.f0 := by rw [sumD_app]; simp [sumD]
   have hb := sumD_le hp
   have h0 := sumD_nonneg hp
   have hr := ih (pre ++ [x]) (by rw [he]; simp) (by intro y hy; simp only [List.mem_append, List.mem_singleton] at hy; rcases hy with hy | rfl; exact hp y hy; exact hV)
   refine Ev.step (fun k => ?_) (Ev.congr (f := fun k => edit_Check.l0 k (sumD (pre ++ [x])) l (l.length : Int) ((pre ++ [x]).length : Int)) (fun k => rfl) ?_)
   ·simp only [edit_Check.l0]
    rw [if_pos (by omega), if_pos (by omega), if_pos (by omega), hx, hv]
    simp only [Option.bind_some, if_true]
    rw [w64 (by have := hV.d0; omega) (by have := hV.d1; omega), w64 (by omega) (by omega), hs]
    simp
   ·have e : ((∀ y ∈ x :: t, Vd y) ∧ sumD l ≤ 1099511627776) = ((∀ y ∈ t, Vd y) ∧ sumD l ≤ 1099511627776) := by
     apply propext
     constructor
     ·rintro ⟨h1, h2⟩; exact ⟨fun y hy => h1 y (by simp [hy]), h2⟩
     ·rintro ⟨h1, h2⟩; exact ⟨fun y hy => by simp only [List.mem_cons] at hy; rcases hy with rfl | hy; exact hV; exact h1 y hy, h2⟩
    simp only [e]
    exact hr
  ·refine Ev.step (f := fun _ => some 33) (fun k => ?_) ?_
   ·simp only [edit_Check.l0]
    rw [if_pos (by omega), if_pos (by omega), if_pos (by omega), hx, hv]
    simp
   ·rw [if_neg (fun h => hV (h.1 x (by simp)))]
    exact Ev.now _
theorem scale_f (n : Int) : edit_isScale.f n = some (decide (1 ≤ n ∧ n ≤ 1000000)) := by
 unfold edit_isScale.f
 by_cases h : n ≥ 1
 ·rw [if_pos h]; simp; omega
 ·rw [if_neg h]; simp; omega
theorem check_f (l : List Ed) (ms ts : Int) : Ev (fun k => edit_Check.f k l ms ts) (chk l ms ts) := by
 have h0 : ∀ b, Ev (fun k => edit_Check.j0 k l b) (if b = true then 1 else if 20 < l.length then 2 else if (∀ x ∈ l, Vd x) ∧ sumD l ≤ 1099511627776 then 0 else 33) := by
  intro b
  by_cases hb : b = true
  ·rw [if_pos hb]
   refine Ev.step (f := fun _ => some 1) (fun k => ?_) (Ev.now _)
   simp only [edit_Check.j0]
   rw [if_pos hb]
  ·rw [if_neg hb]
   by_cases hl : 20 < l.length
   ·rw [if_pos hl]
    refine Ev.step (f := fun _ => some 2) (fun k => ?_) (Ev.now _)
    simp only [edit_Check.j0]
    rw [if_neg hb, if_pos (by omega)]
   ·rw [if_neg hl]
    refine Ev.step (fun k => ?_) (check_l l (by omega) l [] rfl (by simp))
    simp only [edit_Check.j0]
    rw [if_neg hb, if_neg (by omega)]
    rfl
 unfold chk
 by_cases h1 : 1 ≤ ms ∧ ms ≤ 1000000
 ·by_cases h2 : 1 ≤ ts ∧ ts ≤ 1000000
  ·rw [if_neg (not_not_intro ⟨h1.1, h1.2, h2.1, h2.2⟩)]
   refine Ev.congr (fun k => ?_) (h0 false)
   unfold edit_Check.f
   rw [scale_f, scale_f, decide_eq_true h1, decide_eq_true h2]
   rfl
  ·rw [if_pos (fun h => h2 ⟨h.t0, h.t1⟩)]
   refine Ev.congr (fun k => ?_) (h0 true)
   unfold edit_Check.f
   rw [scale_f, scale_f, decide_eq_true h1, decide_eq_false h2]
   rfl
 ·rw [if_pos (fun h => h1 ⟨h.m0, h.m1⟩)]
  refine Ev.congr (fun k => ?_) (h0 true)
  unfold edit_Check.f
  rw [scale_f, decide_eq_false h1]
  rfl
end Go.Proofs.Ytpbhepdgamoiaaa.Pe
namespace Go.Proofs.Ytpbhepdgamoiaaa.Pf
open Go.RowKit Go Go.Proofs.YtpbhepdgamoiaaaW.PrintWords Go.Proofs.YtpbhepdgamoiaaaW.PrintLast Go.Proofs.YtpbhepdgamoiaaaW.PrintMore Go.Proofs.Ytpbhepdgamoiaaa.Mn Go.Proofs.Ytpbhepdgamoiaaa.Rf Go.Proofs.Ytpbhepdgamoiaaa.Er Go.Proofs.Ytpbhepdgamoiaaa.Ek Go.Proofs.Ytpbhepdgamoiaaa.E Go.Proofs.Ytpbhepdgamoiaaa.Pe
set_option linter.unusedVariables false
set_option linter.unusedSimpArgs false
def lowV (x : Ed) : Ed := ⟨x.f0, x.f1, (qq x.f2 x.f3).num, ((qq x.f2 x.f3).den : Int)⟩
def ovV (ms ts : Int) (a b : Ed) : Bool := overB ms ts a.f0 a.f1 a.f2 a.f3 b.f1 b.f2 b.f3
def push (ms ts : Int) : List Ed → Ed → List Ed
 | [], e => [e]
 | a :: t, e => if ovV ms ts a e = true then ⟨a.f0 + e.f0, a.f1, a.f2, a.f3⟩ :: t else e :: a :: t
def nrmR (ms ts : Int) (out l : List Ed) : List Ed := (l.map lowV).foldl (push ms ts) out
def nrm (ms ts : Int) (l : List Ed) : List Ed := (nrmR ms ts [] l).reverse
def fin (out : List Ed) : List Ed × Int := if 20 < out.length then ([], 2) else (out.reverse, 0)
def nrmV (ms ts : Int) (l : List Ed) : List Ed × Int := if 1099511627776 < sumD l then ([], 2) else fin (nrmR ms ts [] l)
structure Wd (x : Ed) : Prop where
 d0 : 1 ≤ x.f0
 m0 : -1 ≤ x.f1
 m1 : x.f1 ≤ 1099511627776
 n0 : 0 ≤ x.f2
 n1 : x.f2 ≤ 1000
 e0 : 1 ≤ x.f3
 e1 : x.f3 ≤ 1000
theorem wd_low {x : Ed} (h : Vd x) : Wd (lowV x) := by
 have hq := qq_low h.n0 h.e0
 have h1 := h.n1
 have h2 := h.e1
 exact ⟨h.d0, h.m0, h.m1, hq.1, by unfold lowV; simp only; omega, hq.2.2.1, by unfold lowV; simp only; omega⟩
theorem low_f {x : Ed} (h : Vd x) : edit_lowest.f x.f0 x.f1 x.f2 x.f3 = some ((lowV x).f0, (lowV x).f1, (lowV x).f2, (lowV x).f3) := by
 unfold edit_lowest.f rateOk
 have h0 := h.n0
 have h1 := h.n1
 have h2 := h.e0
 have h3 := h.e1
 rw [decide_eq_true h0, decide_eq_true (show x.f2 ≤ 1000000 by omega), decide_eq_true h2, decide_eq_true (show x.f3 ≤ 1000000 by omega)]
 rfl
theorem over_f {ms ts : Int} {a b : Ed} (hc : Ck ms ts) (ha : Wd a) (hd : a.f0 ≤ 1099511627776) (hb : Wd b) : edit_clocks_over.f ms ts a.f0 a.f1 a.f2 a.f3 b.f0 b.f1 b.f2 b.f3 = some (ovV ms ts a b) := by
 unfold edit_clocks_over.f overOk in64
 have c0 := hc.m0
 have c1 := hc.m1
 have c2 := hc.t0
 have c3 := hc.t1
 have a0 := ha.d0
 have a1 := ha.m0
 have a2 := ha.m1
 have a3 := ha.n0
 have a4 := ha.n1
 have a5 := ha.e0
 have a6 := ha.e1
 have b1 := hb.m0
 have b2 := hb.m1
 rw [if_pos (by simp only [Bool.and_eq_true, decide_eq_true_eq]; omega)]
 rfl
theorem push_sum (ms ts : Int) (out : List Ed) (e : Ed) : sumD (push ms ts out e) = sumD out + e.f0 := by
 cases out with
 | nil => simp [push, sumD]
 | cons a t =>
  simp only [push]
  split
  ·simp only [sumD]; omega
  ·simp only [sumD]; omega
theorem push_wd {ms ts : Int} {out : List Ed} {e : Ed} (h : ∀ x ∈ out, Wd x) (he : Wd e) : ∀ x ∈ push ms ts out e, Wd x := by
 cases out with
 | nil => simpa [push] using he
 | cons a t =>
  have ha := h a (by simp)
  simp only [push]
  split
  ·intro x hx
   simp only [List.mem_cons] at hx
   rcases hx with rfl | hx
   ·have a0 := ha.d0
    have e0 := he.d0
    exact ⟨by simp only; omega, ha.m0, ha.m1, ha.n0, ha.n1, ha.e0, ha.e1⟩
   ·exact h x (by simp [hx])
  ·intro x hx
   simp only [List.mem_cons] at hx
   rcases hx with rfl | hx
   ·exact he
   ·exact h x (by simpa using hx)
theorem push_len (ms ts : Int) (out : List Ed) (e : Ed) : (push ms ts out e).length ≤ out.length + 1 := by
 cases out with
 | nil => simp [push]
 | cons a t =>
  simp only [push]
  split <;> simp
theorem wd_sum {l : List Ed} (h : ∀ x ∈ l, Wd x) : 0 ≤ sumD l := by
 induction l with
 | nil => simp [sumD]
 | cons x t ih =>
  have h1 := (h x (by simp)).d0
  have h2 := ih (fun y hy => h y (by simp [hy]))
  simp only [sumD]
  omega
theorem normal_l {ms ts : Int} (hc : Ck ms ts) (l : List Ed) (hV : ∀ x ∈ l, Vd x) (hl : l.length ≤ 1000000000) (rest : List Ed) :
  ∀ pre out, l = pre ++ rest → sumD out = sumD pre → sumD pre ≤ 1099511627776 → (∀ x ∈ out, Wd x) → out.length ≤ pre.length →
   Ev (fun k => edit_clocks_normal.l0 k out.reverse (sumD pre) l (l.length : Int) (pre.length : Int) ms ts) (if 1099511627776 < sumD l then ([], 2) else fin (nrmR ms ts out rest)) := by
 induction rest with
 | nil =>
  intro pre out he hs hp hw ho
  subst he
  rw [if_neg (by simp only [List.append_nil]; omega)]
  refine Ev.step (f := fun _ => some (fin (nrmR ms ts out []))) (fun k => ?_) (Ev.now _)
  simp only [edit_clocks_normal.l0, List.append_nil]
  rw [if_neg (by omega)]
  unfold fin nrmR
  simp only [List.map_nil, List.foldl_nil, List.length_reverse]
  by_cases h : 20 < out.length
  ·rw [if_pos h, if_pos (by omega)]
  ·rw [if_neg h, if_neg (by omega)]
 | cons x t ih =>
  intro pre out he hs hp hw ho
  have hlen : l.length = pre.length + (t.length + 1) := by rw [he]; simp
  have hx : rd_T77 l (pre.length : Int) = x := by rw [he]; exact rd_at pre x t
  have hvx : Vd x := hV x (by rw [he]; simp)
  have hst : 0 ≤ sumD t := sumD_nonneg (fun y hy => hV y (by rw [he]; simp [hy]))
  have hsl : sumD l = sumD pre + x.f0 + sumD t := by rw [he, sumD_app]; simp only [sumD]; omega
  have hs0 : 0 ≤ sumD pre := by rw [← hs]; exact wd_sum hw
  have hd0 := hvx.d0
  have hd1 := hvx.d1
  have hsp : sumD (pre ++ [x]) = sumD pre + x.f0 := by rw [sumD_app]; simp [sumD]
  by_cases hbig : sumD pre + x.f0 > 1099511627776
  ·rw [if_pos (by omega)]
   refine Ev.step (f := fun _ => some ([], 2)) (fun k => ?_) (Ev.now _)
   simp only [edit_clocks_normal.l0]
   rw [if_pos (by omega), if_pos (by omega), if_pos (by omega), hx, low_f hvx]
   simp only [Option.bind_some]
   rw [show (lowV x).f0 = x.f0 from rfl, w64 (by omega) (by omega), if_pos hbig]
  ·have hwl := wd_low hvx
   have hr := ih (pre ++ [x]) (push ms ts out (lowV x)) (by rw [he]; simp) (by rw [push_sum, hs, hsp]; rfl) (by omega) (push_wd hw hwl) (by have := push_len ms ts out (lowV x); simp only [List.length_append, List.length_cons, List.length_nil]; omega)
   have hn : nrmR ms ts out (x :: t) = nrmR ms ts (push ms ts out (lowV x)) t := rfl
   rw [hn]
   refine Ev.step (f := fun k => edit_clocks_normal.l1 k out.reverse (sumD (pre ++ [x])) (out.reverse.length : Int) l (l.length : Int) (pre.length : Int) ms ts (lowV x).f0 (lowV x).f1 (lowV x).f2 (lowV x).f3) (fun k => ?_) ?_
   ·simp only [edit_clocks_normal.l0]
    rw [if_pos (by omega), if_pos (by omega), if_pos (by omega), hx, low_f hvx]
    simp only [Option.bind_some]
    rw [show (lowV x).f0 = x.f0 from rfl, w64 (by omega) (by omega), if_neg hbig, hsp]
   ·refine Ev.step (f := fun k => edit_clocks_normal.l0 k (push ms ts out (lowV x)).reverse (sumD (pre ++ [x])) l (l.length : Int) ((pre ++ [x]).length : Int) ms ts) (fun k => ?_) hr
    simp only [edit_clocks_normal.l1]
    have hpl : wrap64 ((pre.length : Int) + 1) = ((pre ++ [x]).length : Int) := by rw [w64 (by omega) (by omega)]; simp
    rw [hpl]
    cases out with
    | nil =>
     rw [if_neg (show ¬ (([] : List Ed).reverse.length : Int) > 0 by simp), if_pos (show ([] : List Ed).reverse.length < 4398046511104 by simp)]
     rfl
    | cons a o =>
     have hla : (a :: o).reverse.length = o.length + 1 := by simp
     have hra : rd_T77 (a :: o).reverse (o.length : Int) = a := by
      rw [List.reverse_cons]
      have := rd_at o.reverse a []
      rw [List.length_reverse] at this
      exact this
     have hol : o.length + 1 ≤ pre.length := ho
     have hsa := wd_sum (l := o) (fun y hy => hw y (by simp [hy]))
     have hda : a.f0 ≤ 1099511627776 := by simp only [sumD] at hs; omega
     rw [hla, if_pos (by omega), w64 (by omega) (by omega), show ((o.length + 1 : Nat) : Int) - 1 = (o.length : Int) by omega, if_pos (by omega), if_pos (by omega), hra]
     have ha0 := (hw a (by simp)).d0
     have hov : edit_clocks_over.f ms ts a.f0 a.f1 a.f2 a.f3 (lowV x).f0 (lowV x).f1 (lowV x).f2 (lowV x).f3 = some (ovV ms ts a (lowV x)) := over_f hc (hw a (by simp)) hda hwl
     rw [hov]
     simp only [Option.bind_some, push]
     by_cases hb : ovV ms ts a (lowV x) = true
     ·rw [if_pos hb, if_pos hb]
      have hf : (lowV x).f0 = x.f0 := rfl
      simp only [sumD] at hs
      rw [w64 (by rw [hf]; omega) (by rw [hf]; omega)]
      congr 1
      rw [List.reverse_cons, List.reverse_cons, Int.toNat_natCast]
      have : o.length = o.reverse.length := by simp
      rw [this, List.set_append_right _ _ (Nat.le_refl _)]
      simp
     ·rw [if_neg hb, if_neg hb, if_pos (by omega)]
      congr 1
      simp
theorem normal_f {ms ts : Int} (hc : Ck ms ts) (l : List Ed) (hV : ∀ x ∈ l, Vd x) (hl : l.length ≤ 1000000000) : Ev (fun k => edit_clocks_normal.f k ms ts l) (nrmV ms ts l) :=
 normal_l hc l hV hl l [] [] rfl rfl (by simp [sumD]) (by simp) (by simp)
theorem nrmR_len (ms ts : Int) (l : List Ed) : ∀ out, (nrmR ms ts out l).length ≤ out.length + l.length := by
 induction l with
 | nil => intro out; simp [nrmR]
 | cons x t ih =>
  intro out
  have h := ih (push ms ts out (lowV x))
  have hn : nrmR ms ts out (x :: t) = nrmR ms ts (push ms ts out (lowV x)) t := rfl
  have h2 := push_len ms ts out (lowV x)
  rw [hn]
  simp only [List.length_cons]
  omega
def norV (ms ts : Int) (l : List Ed) : List Ed × Int := if chk l ms ts = 0 then (nrm ms ts l, 0) else ([], chk l ms ts)
theorem Normal_f (l : List Ed) (ms ts : Int) : Ev (fun k => edit_Normal.f k l ms ts) (norV ms ts l) := by
 unfold norV
 by_cases h0 : chk l ms ts = 0
 ·obtain ⟨hc, hl, hV, hs⟩ := chk_ok.1 h0
  rw [if_pos h0]
  have hr : nrmV ms ts l = (nrm ms ts l, 0) := by
   have := nrmR_len ms ts l []
   simp only [List.length_nil] at this
   unfold nrmV fin nrm
   rw [if_neg (by omega), if_neg (by omega)]
  have h1 := check_f l ms ts
  rw [h0] at h1
  refine Ev.congr (fun k => rfl) (Ev.bind h1 ?_)
  refine Ev.congr (fun k => if_pos rfl) (Ev.bind (normal_f hc l hV (by omega)) ?_)
  rw [hr]
  exact Ev.now _
 ·rw [if_neg h0]
  refine Ev.congr (fun k => rfl) (Ev.bind (check_f l ms ts) ?_)
  refine Ev.congr (fun k => if_neg h0) (Ev.now _)
end Go.Proofs.Ytpbhepdgamoiaaa.Pf
namespace Go.Proofs.Ytpbhepdgamoiaaa.Qr
open Go.RowKit Go Go.Proofs.YtpbhepdgamoiaaaW.PrintWords Go.Proofs.YtpbhepdgamoiaaaW.PrintLast Go.Proofs.YtpbhepdgamoiaaaW.PrintMore Go.Proofs.Ytpbhepdgamoiaaa.Ml Go.Proofs.Ytpbhepdgamoiaaa.Mn Go.Proofs.Ytpbhepdgamoiaaa.Nd Go.Proofs.Ytpbhepdgamoiaaa.Pa Go.Proofs.Ytpbhepdgamoiaaa.Pb Go.Proofs.Ytpbhepdgamoiaaa.Rf Go.Proofs.Ytpbhepdgamoiaaa.Er Go.Proofs.Ytpbhepdgamoiaaa.Ek Go.Proofs.Ytpbhepdgamoiaaa.E Go.Proofs.Ytpbhepdgamoiaaa.Pe Go.Proofs.Ytpbhepdgamoiaaa.Pf
set_option linter.unusedVariables false
set_option linter.unusedSimpArgs false
structure RV (b : Bool) (x y : List Int) (q : Rat) (n : Nat) : Prop where
 nx : Nn x
 ny : Nn y
 pos : 0 < dv 1000000000 y
 eq : q = qq (sg b (dv 1000000000 x)) (dv 1000000000 y)
 lx : x.length ≤ n
 ly : y.length ≤ n
theorem RV.mono {b : Bool} {x y : List Int} {q : Rat} {n m : Nat} (h : RV b x y q n) (hm : n ≤ m) : RV b x y q m := ⟨h.nx, h.ny, h.pos, h.eq, Nat.le_trans h.lx hm, Nat.le_trans h.ly hm⟩
theorem RV.x0 {b : Bool} {x y : List Int} {q : Rat} {n : Nat} (h : RV b x y q n) : 0 ≤ dv 1000000000 x := dv_nonneg (by decide) h.nx.dg
def RE (f : Nat → Option (Bool × List Int × List Int)) (q : Rat) (n : Nat) : Prop := ∃ b x y, Ev f (b, x, y) ∧ RV b x y q n
theorem qq_parts {a b : Int} (hb : 0 < b) : ∃ g : Int, 0 < g ∧ a = (qq a b).num * g ∧ b = ((qq a b).den : Int) * g := by
 obtain ⟨h1, h2⟩ := rat_low (a := a) (b := b) (by omega)
 refine ⟨(Int.gcd a b : Nat), ?_, ?_, ?_⟩
 ·have := Int.gcd_pos_of_ne_zero_right a (show b ≠ 0 by omega)
  omega
 ·rw [← h1]
  unfold Ra.ratN Ea.lowN
  rw [if_neg (by omega)]
  exact (Int.ediv_mul_cancel (Int.gcd_dvd_left a b)).symm
 ·rw [← h2]
  unfold Ra.ratD Ea.lowD
  rw [if_neg (by omega)]
  exact (Int.ediv_mul_cancel (Int.gcd_dvd_right a b)).symm
theorem qq_lt {a b c d : Int} (hb : 0 < b) (hd : 0 < d) : qq a b < qq c d ↔ a * d < c * b := by
 obtain ⟨g, hg, e1, e2⟩ := qq_parts (a := a) hb
 obtain ⟨h, hh, e3, e4⟩ := qq_parts (a := c) hd
 rw [Rat.lt_iff]
 generalize (qq a b).num = N1 at *
 generalize ((qq a b).den : Int) = D1 at *
 generalize (qq c d).num = N2 at *
 generalize ((qq c d).den : Int) = D2 at *
 subst e1 e2 e3 e4
 have k1 : N1 * g * (D2 * h) = N1 * D2 * (g * h) := by grind
 have k2 : N2 * h * (D1 * g) = N2 * D1 * (g * h) := by grind
 rw [k1, k2]
 exact (Int.mul_lt_mul_right (Int.mul_pos hg hh)).symm
theorem ratio_f (n d : Int) (hn : -9223372036854775807 ≤ n) (hn1 : n ≤ 9223372036854775807) (hd : 0 < d) (hd1 : d ≤ 9223372036854775807) : RE (fun k => dioramaref10_ratio.f k n d) (qq n d) 3 := by
 obtain ⟨y, ey, ny, vy, ly⟩ := of_f d (by omega) hd1
 by_cases h : n < 0
 ·obtain ⟨x, ex, nx, vx, lx⟩ := of_f (-n) (by omega) (by omega)
  refine ⟨true, x, y, ?_, ⟨nx, ny, by rw [vy]; exact hd, by rw [vx, vy]; simp [sg], lx, ly⟩⟩
  refine Ev.congr (fun k => if_pos h) ?_
  rw [w64 (by omega) (by omega)]
  exact Ev.bind ex (Ev.bind ey (Ev.now _))
 ·obtain ⟨x, ex, nx, vx, lx⟩ := of_f n (by omega) hn1
  refine ⟨false, x, y, ?_, ⟨nx, ny, by rw [vy]; exact hd, by rw [vx, vy]; simp [sg], lx, ly⟩⟩
  refine Ev.congr (fun k => if_neg h) ?_
  exact Ev.bind ex (Ev.bind ey (Ev.now _))
theorem sg_ne (a b : Bool) (x y : Int) : sg (a != b) (x * y) = sg a x * sg b y := by cases a <;> cases b <;> simp [sg, Int.neg_mul, Int.mul_neg]
theorem timesR_f {b1 b2 : Bool} {x1 y1 x2 y2 : List Int} {p q : Rat} {n m : Nat} (h1 : RV b1 x1 y1 p n) (h2 : RV b2 x2 y2 q m) (hl : n + m ≤ 1000000) : RE (fun k => dioramaref10_times.f k b1 x1 y1 b2 x2 y2) (p * q) (n + m) := by
 have l1 := h1.lx
 have l2 := h1.ly
 have l3 := h2.lx
 have l4 := h2.ly
 obtain ⟨x, ex, nx, vx, lx⟩ := times_f x1 x2 h1.nx h2.nx (by omega)
 obtain ⟨y, ey, ny, vy, ly⟩ := times_f y1 y2 h1.ny h2.ny (by omega)
 refine ⟨b1 != b2, x, y, Ev.congr (fun k => rfl) (Ev.bind ex (Ev.bind ey (Ev.now _))), ⟨nx, ny, by rw [vy]; exact Int.mul_pos h1.pos h2.pos, ?_, by omega, by omega⟩⟩
 rw [h1.eq, h2.eq, vx, vy, sg_ne]
 unfold qq
 rw [Rat.divInt_mul_divInt]
theorem sumR_f {b1 b2 : Bool} {x1 y1 x2 y2 : List Int} {p q : Rat} {n m : Nat} (h1 : RV b1 x1 y1 p n) (h2 : RV b2 x2 y2 q m) (hl : n + m + 2 ≤ 1000000) : RE (fun k => dioramaref02_Sum.f k b1 x1 y1 b2 x2 y2) (p + q) (n + m + 1) := by
 have l1 := h1.lx
 have l2 := h1.ly
 have l3 := h2.lx
 have l4 := h2.ly
 obtain ⟨u, eu, nu, vu, lu⟩ := times_f x1 y2 h1.nx h2.ny (by omega)
 obtain ⟨v, ev, nv, vv, lv⟩ := times_f x2 y1 h2.nx h1.ny (by omega)
 obtain ⟨y, ey, ny, vy, ly⟩ := times_f y1 y2 h1.ny h2.ny (by omega)
 have hpos : 0 < dv 1000000000 y := by rw [vy]; exact Int.mul_pos h1.pos h2.pos
 have heq : p + q = qq (sg b1 (dv 1000000000 u) + sg b2 (dv 1000000000 v)) (dv 1000000000 y) := by
  have e1 : sg b1 (dv 1000000000 u) = sg b1 (dv 1000000000 x1) * dv 1000000000 y2 := by rw [vu]; cases b1 <;> simp [sg, Int.neg_mul]
  have e2 : sg b2 (dv 1000000000 v) = sg b2 (dv 1000000000 x2) * dv 1000000000 y1 := by rw [vv]; cases b2 <;> simp [sg, Int.neg_mul]
  rw [h1.eq, h2.eq, vy, e1, e2]
  unfold qq
  rw [Rat.divInt_add_divInt _ _ (by have := h1.pos; omega) (by have := h2.pos; omega)]
 by_cases hb : b1 = b2
 ·subst hb
  obtain ⟨s, es, ns, vs, ls⟩ := plus_f u v nu nv (by omega) (by omega)
  refine ⟨b1, s, y, ?_, ⟨ns, ny, hpos, ?_, by omega, by omega⟩⟩
  ·refine Ev.congr (fun k => rfl) (Ev.bind eu (Ev.bind ev (Ev.bind ey ?_)))
   exact Ev.congr (fun k => if_pos (by simp)) (Ev.bind es (Ev.now _))
  ·rw [heq, vs]
   cases b1
   ·simp [sg]
   ·simp [sg, Int.neg_add]
 ·have hc := compare_f u v nu nv (by omega) (by omega)
  have hne : ¬ (b1 == b2) = true := by simpa using hb
  by_cases hle : dv 1000000000 v ≤ dv 1000000000 u
  ·obtain ⟨s, es, ns, vs, ls⟩ := minus_f u v nu nv (by omega) hle
   refine ⟨b1, s, y, ?_, ⟨ns, ny, hpos, ?_, by omega, by omega⟩⟩
   ·refine Ev.congr (fun k => rfl) (Ev.bind eu (Ev.bind ev (Ev.bind ey ?_)))
    refine Ev.congr (fun k => if_neg hne) (Ev.bind hc ?_)
    refine Ev.congr (fun k => if_pos ?_) (Ev.bind es (Ev.now _))
    unfold cmpI
    rw [if_neg (by omega)]
    split <;> decide
   ·rw [heq, vs]
    cases b1 <;> cases b2 <;> simp [sg] at hb ⊢ <;> congr 1 <;> omega
  ·obtain ⟨s, es, ns, vs, ls⟩ := minus_f v u nv nu (by omega) (by omega)
   refine ⟨b2, s, y, ?_, ⟨ns, ny, hpos, ?_, by omega, by omega⟩⟩
   ·refine Ev.congr (fun k => rfl) (Ev.bind eu (Ev.bind ev (Ev.bind ey ?_)))
    refine Ev.congr (fun k => if_neg hne) (Ev.bind hc ?_)
    refine Ev.congr (fun k => if_neg ?_) (Ev.bind es (Ev.now _))
    unfold cmpI
    rw [if_pos (by omega)]
    decide
   ·rw [heq, vs]
    cases b1 <;> cases b2 <;> simp [sg] at hb ⊢ <;> congr 1 <;> omega
theorem plusR_f {b1 b2 : Bool} {x1 y1 x2 y2 : List Int} {p q : Rat} {n m : Nat} (h1 : RV b1 x1 y1 p n) (h2 : RV b2 x2 y2 q m) (hl : n + m + 2 ≤ 1000000) : RE (fun k => dioramaref10_plus.f k b1 x1 y1 b2 x2 y2) (p + q) (n + m + 1) := by
 obtain ⟨b, x, y, he, hv⟩ := sumR_f h1 h2 hl
 exact ⟨b, x, y, Ev.congr (fun k => rfl) (Ev.bind he (Ev.now _)), hv⟩
theorem RV.neg {b : Bool} {x y : List Int} {q : Rat} {n : Nat} (h : RV b x y q n) : RV (!b) x y (-q) n := by
 refine ⟨h.nx, h.ny, h.pos, ?_, h.lx, h.ly⟩
 rw [h.eq]
 unfold qq
 rw [Rat.neg_divInt]
 congr 1
 cases b <;> simp [sg]
theorem RV.sign {b : Bool} {x y : List Int} {q : Rat} {n : Nat} (h : RV b x y q n) : (b && decide ((x.length : Int) > 0)) = decide (q < 0) := by
 have h0 := h.x0
 have hz := dv_eq_zero (by decide) h.nx
 have hq : q < 0 ↔ sg b (dv 1000000000 x) < 0 := by
  have e : (0 : Rat) = qq 0 1 := by unfold qq; simp
  rw [h.eq, e, qq_lt h.pos (by decide)]
  simp
 rw [Bool.eq_iff_iff]
 simp only [Bool.and_eq_true, decide_eq_true_eq, hq]
 have hl : (x.length : Int) > 0 ↔ dv 1000000000 x ≠ 0 := by
  rw [ne_eq, hz]
  cases x <;> simp
 rw [hl]
 cases b
 ·simp [sg]; omega
 ·simp [sg]; omega
theorem lessR_f {b1 b2 : Bool} {x1 y1 x2 y2 : List Int} {p q : Rat} {n m : Nat} (h1 : RV b1 x1 y1 p n) (h2 : RV b2 x2 y2 q m) (hl : n + m + 2 ≤ 1000000) : Ev (fun k => dioramaref02_Less.f k b1 x1 y1 b2 x2 y2) (decide (p < q)) := by
 obtain ⟨b, x, y, he, hv⟩ := sumR_f h1 h2.neg hl
 have hs := hv.sign
 have e : decide (p + -q < 0) = decide (p < q) := by
  congr 1
  apply propext
  constructor <;> intro h <;> grind
 rw [e] at hs
 refine Ev.congr (fun k => rfl) (Ev.bind he ?_)
 cases b with
 | true =>
  refine Ev.congr (fun k => if_pos rfl) ?_
  rw [← hs]
  exact Ev.now _
 | false =>
  refine Ev.congr (f := fun _ => some false) (fun k => if_neg (by simp)) ?_
  rw [← hs]
  exact Ev.now _
theorem equalR_f {b1 b2 : Bool} {x1 y1 x2 y2 : List Int} {p q : Rat} {n m : Nat} (h1 : RV b1 x1 y1 p n) (h2 : RV b2 x2 y2 q m) (hl : n + m + 2 ≤ 1000000) : Ev (fun k => dioramaref10_equal.f k b1 x1 y1 b2 x2 y2) (decide (p = q)) := by
 refine Ev.congr (fun k => rfl) (Ev.bind (lessR_f h1 h2 hl) ?_)
 by_cases h : p < q
 ·rw [decide_eq_true h, decide_eq_false (by intro e; subst e; exact Rat.lt_irrefl h)]
  exact Ev.congr (fun k => if_pos rfl) (Ev.now _)
 ·rw [decide_eq_false h]
  refine Ev.congr (fun k => if_neg (by decide)) (Ev.bind (lessR_f h2 h1 (by omega)) ?_)
  have e : (!decide (q < p)) = decide (p = q) := by
   rw [Bool.eq_iff_iff]
   simp only [Bool.not_eq_true', decide_eq_false_iff_not, decide_eq_true_eq]
   constructor
   ·intro h2; grind
   ·intro e; subst e; exact h
  rw [e]
  exact Ev.now _
theorem rate_f (d m n e : Int) (hn : 0 ≤ n) (hn1 : n ≤ 1000000) (he : 1 ≤ e) (he1 : e ≤ 1000000) : RE (fun k => dioramaref10_rate.f k d m n e) (qq n e) 3 := by
 obtain ⟨b, x, y, he, hv⟩ := ratio_f n e (by omega) (by omega) (by omega) (by omega)
 exact ⟨b, x, y, Ev.congr (fun k => rfl) (Ev.bind he (Ev.now _)), hv⟩
theorem media_f {b : Bool} {x y : List Int} {p : Rat} {N : Nat} (d m n e ts : Int) (hn : 0 ≤ n) (hn1 : n ≤ 1000000) (he : 1 ≤ e) (he1 : e ≤ 1000000) (hm : -9223372036854775807 ≤ m) (hm1 : m ≤ 9223372036854775807) (ht : 1 ≤ ts) (ht1 : ts ≤ 1000000) (h : RV b x y p N) (hl : N ≤ 1000) :
  RE (fun k => dioramaref10_media.f k d m n e ts b x y) (qq m ts + p * qq n e) (N + 7) := by
 obtain ⟨b1, x1, y1, e1, v1⟩ := ratio_f m ts hm hm1 (by omega) (by omega)
 obtain ⟨b2, x2, y2, e2, v2⟩ := rate_f d m n e hn hn1 he he1
 obtain ⟨b3, x3, y3, e3, v3⟩ := timesR_f h v2 (by omega)
 obtain ⟨b4, x4, y4, e4, v4⟩ := plusR_f v1 v3 (by omega)
 exact ⟨b4, x4, y4, Ev.congr (fun k => rfl) (Ev.bind e1 (Ev.bind e2 (Ev.bind e3 (Ev.bind e4 (Ev.now _))))), v4.mono (by omega)⟩
end Go.Proofs.Ytpbhepdgamoiaaa.Qr
namespace Go.Proofs.Ytpbhepdgamoiaaa.Pg
open Go.RowKit Go Go.Proofs.YtpbhepdgamoiaaaW.PrintWords Go.Proofs.YtpbhepdgamoiaaaW.PrintLast Go.Proofs.YtpbhepdgamoiaaaW.PrintMore Go.Proofs.Ytpbhepdgamoiaaa.Mn Go.Proofs.Ytpbhepdgamoiaaa.Rf Go.Proofs.Ytpbhepdgamoiaaa.Er Go.Proofs.Ytpbhepdgamoiaaa.Ek Go.Proofs.Ytpbhepdgamoiaaa.E Go.Proofs.Ytpbhepdgamoiaaa.Pe Go.Proofs.Ytpbhepdgamoiaaa.Pf
set_option linter.unusedVariables false
set_option linter.unusedSimpArgs false
instance : DecidableEq Ed := fun x y =>
 decidable_of_iff (x.f0 = y.f0 ∧ x.f1 = y.f1 ∧ x.f2 = y.f2 ∧ x.f3 = y.f3) ⟨fun h => by cases x; cases y; simp_all, fun h => by subst h; simp⟩
theorem ed_ne (x y : Ed) : (!x.f0 == y.f0 || (!x.f1 == y.f1 || (!x.f2 == y.f2 || !x.f3 == y.f3))) = !decide (x = y) := by
 cases x; cases y
 rw [Bool.eq_iff_iff]
 simp
def exL : List Ed := [⟨10, 0, 1, 1⟩, ⟨5, 10, 1, 1⟩]
theorem nrm_ex : nrm 10 10 exL = [⟨15, 0, 1, 1⟩] := by decide +kernel
theorem chk_ex : chk exL 10 10 = 0 := by decide +kernel
theorem awake_f : Ev (fun k => dioramalaw10_awake.f k) true := by
 have h := Normal_f exL 10 10
 unfold norV at h
 rw [if_pos chk_ex, nrm_ex] at h
 refine Ev.congr (fun k => rfl) (Ev.bind h ?_)
 refine Ev.congr (f := fun _ => some true) (fun k => ?_) (Ev.now _)
 rfl
theorem many_f (l : List Ed) : dioramalaw10_many.f l = some (decide (60 < l.length)) := by
 unfold dioramalaw10_many.f
 congr 1
 by_cases h : 60 < l.length
 ·rw [decide_eq_true h, decide_eq_true (by omega)]
 ·rw [decide_eq_false h, decide_eq_false (by omega)]
end Go.Proofs.Ytpbhepdgamoiaaa.Pg
namespace Go.Proofs.Ytpbhepdgamoiaaa.Qn
open Go.RowKit Go Go.Proofs.YtpbhepdgamoiaaaW.PrintWords Go.Proofs.YtpbhepdgamoiaaaW.PrintLast Go.Proofs.YtpbhepdgamoiaaaW.PrintMore Go.Proofs.Ytpbhepdgamoiaaa.Ml Go.Proofs.Ytpbhepdgamoiaaa.Mn Go.Proofs.Ytpbhepdgamoiaaa.Nd Go.Proofs.Ytpbhepdgamoiaaa.Pa Go.Proofs.Ytpbhepdgamoiaaa.Pb Go.Proofs.Ytpbhepdgamoiaaa.Rf Go.Proofs.Ytpbhepdgamoiaaa.Er Go.Proofs.Ytpbhepdgamoiaaa.Ek Go.Proofs.Ytpbhepdgamoiaaa.E Go.Proofs.Ytpbhepdgamoiaaa.Pe Go.Proofs.Ytpbhepdgamoiaaa.Pf Go.Proofs.Ytpbhepdgamoiaaa.Pg Go.Proofs.Ytpbhepdgamoiaaa.Qr
set_option linter.unusedVariables false
set_option linter.unusedSimpArgs false
def Lw (x : Ed) : Prop := (qq x.f2 x.f3).num = x.f2 ∧ ((qq x.f2 x.f3).den : Int) = x.f3
theorem qq_self (q : Rat) : qq q.num (q.den : Int) = q := by unfold qq; exact Rat.num_divInt_den q
theorem lw_low (x : Ed) : Lw (lowV x) := by
 unfold Lw lowV
 simp only [qq_self]
 exact ⟨trivial, trivial⟩
theorem qq_eq {a b c d : Int} (hb : b ≠ 0) (hd : d ≠ 0) : qq a b = qq c d ↔ a * d = c * b := by
 unfold qq
 exact Rat.divInt_eq_divInt_iff hb hd
def ovR (ms ts : Int) (a b : Ed) : Bool :=
 if a.f1 = -1 ∨ b.f1 = -1 then decide (a.f1 = -1 ∧ b.f1 = -1)
 else if a.f2 = 0 ∨ b.f2 = 0 then decide (a.f2 = 0 ∧ b.f2 = 0 ∧ a.f1 = b.f1)
 else decide (a.f2 * b.f3 = b.f2 * a.f3 ∧ qq a.f1 ts + qq a.f0 ms * qq a.f2 a.f3 = qq b.f1 ts)
theorem qq_div (a b : Int) : qq a b = (a : Rat) / (b : Rat) := by unfold qq; exact Rat.divInt_eq_div a b
theorem cast_ne {n : Int} (h : 1 ≤ n) : ((n : Int) : Rat) ≠ 0 := by
 intro e
 have : n = 0 := by exact_mod_cast e
 omega
theorem after_iff {ms ts a b d n e : Int} (hm : 1 ≤ ms) (ht : 1 ≤ ts) (he : 1 ≤ e) : (afterQ ms ts a n e d = qq b 1) ↔ (qq a ts + qq d ms * qq n e = qq b ts) := by
 unfold afterQ
 simp only [qq_div]
 have h1 := cast_ne hm
 have h2 := cast_ne ht
 have h3 := cast_ne he
 have h4 : ((1 : Int) : Rat) = 1 := rfl
 rw [h4]
 generalize (ms : Rat) = M at *
 generalize (ts : Rat) = T at *
 generalize (e : Rat) = E at *
 generalize (n : Rat) = N at *
 generalize (d : Rat) = D at *
 generalize (a : Rat) = A at *
 generalize (b : Rat) = B at *
 constructor
 ·intro h; grind
 ·intro h; grind
theorem cmpQ_zero (p q : Rat) : (cmpQ p q == 0) = decide (p = q) := by
 unfold cmpQ
 by_cases h : p < q
 ·rw [if_pos h, decide_eq_false (by intro e; subst e; exact Rat.lt_irrefl h)]; rfl
 ·rw [if_neg h]
  by_cases h2 : q < p
  ·rw [if_pos h2, decide_eq_false (by intro e; subst e; exact Rat.lt_irrefl h2)]; rfl
  ·rw [if_neg h2, decide_eq_true (by grind)]; rfl
theorem low_zero {n e : Int} (h0 : 0 ≤ n) (he : 1 ≤ e) : (qq n e).num = 0 ↔ n = 0 := by
 obtain ⟨g, hg, e1, e2⟩ := qq_parts (a := n) (b := e) (by omega)
 constructor
 ·intro h; rw [h] at e1; omega
 ·intro h
  rcases Int.mul_eq_zero.1 (e1.symm.trans h) with h2 | h2
  ·exact h2
  ·omega
theorem ovR1 {ms ts : Int} {a b : Ed} (h : a.f1 = -1 ∨ b.f1 = -1) : ovR ms ts a b = decide (a.f1 = -1 ∧ b.f1 = -1) := if_pos h
theorem ovR2 {ms ts : Int} {a b : Ed} (h : ¬ (a.f1 = -1 ∨ b.f1 = -1)) (h2 : a.f2 = 0 ∨ b.f2 = 0) : ovR ms ts a b = decide (a.f2 = 0 ∧ b.f2 = 0 ∧ a.f1 = b.f1) := (if_neg h).trans (if_pos h2)
theorem ovR3 {ms ts : Int} {a b : Ed} (h : ¬ (a.f1 = -1 ∨ b.f1 = -1)) (h2 : ¬ (a.f2 = 0 ∨ b.f2 = 0)) : ovR ms ts a b = decide (a.f2 * b.f3 = b.f2 * a.f3 ∧ qq a.f1 ts + qq a.f0 ms * qq a.f2 a.f3 = qq b.f1 ts) := (if_neg h).trans (if_neg h2)
theorem ov_eq {ms ts : Int} (hc : Ck ms ts) {a b : Ed} (ha : Wd a) (hl : Lw a) (hb : Vd b) : ovV ms ts a (lowV b) = ovR ms ts a b := by
 have c0 := hc.m0
 have c2 := hc.t0
 have a1 := ha.m0
 have a3 := ha.n0
 have a5 := ha.e0
 have b1 := hb.m0
 have b3 := hb.n0
 have b5 := hb.e0
 have hz := low_zero b3 b5
 have hlb : (lowV b).f1 = b.f1 := rfl
 have hlb2 : (lowV b).f2 = (qq b.f2 b.f3).num := rfl
 have hlb3 : (lowV b).f3 = ((qq b.f2 b.f3).den : Int) := rfl
 by_cases ea : a.f1 = -1
 ·rw [ovR1 (Or.inl ea)]
  unfold ovV overB kinB kB kS kN kE
  rw [hlb, hlb2, hlb3, cmpQ_zero, ea]
  by_cases eb : b.f1 = -1
  ·rw [eb]; simp
  ·have : ¬ b.f1 < 0 := by omega
   simp [this, eb]
 ·have na : ¬ a.f1 < 0 := by omega
  by_cases eb : b.f1 = -1
  ·rw [ovR1 (Or.inr eb)]
   unfold ovV overB kinB kB kS kN kE
   rw [hlb, hlb2, hlb3, cmpQ_zero, eb]
   simp [na, ea]
  ·have nb : ¬ b.f1 < 0 := by omega
   have hne : ¬ (a.f1 = -1 ∨ b.f1 = -1) := by omega
   by_cases za : a.f2 = 0
   ·rw [ovR2 hne (Or.inl za)]
    unfold ovV overB kinB kB kS kN kE
    rw [hlb, hlb2, hlb3, cmpQ_zero]
    simp only [if_neg na, if_neg nb, decide_eq_false na, decide_eq_false nb, if_pos za]
    by_cases zb : b.f2 = 0
    ·simp only [if_pos (hz.2 zb)]
     rw [Bool.eq_iff_iff]
     simp [za, zb]
    ·have zb' : ¬ (qq b.f2 b.f3).num = 0 := fun h => zb (hz.1 h)
     simp only [if_neg zb']
     have e1 : ((0 : Int) == (qq b.f2 b.f3).num) = false := by simpa using fun h => zb' h.symm
     rw [Bool.eq_iff_iff]
     simp [za, zb, e1]
   ·by_cases zb : b.f2 = 0
    ·rw [ovR2 hne (Or.inr zb)]
     unfold ovV overB kinB kB kS kN kE
     rw [hlb, hlb2, hlb3, cmpQ_zero]
     simp only [if_neg na, if_neg nb, decide_eq_false na, decide_eq_false nb, if_neg za, if_pos (hz.2 zb)]
     rw [Bool.eq_iff_iff]
     simp [za, zb]
    ·have zb' : ¬ (qq b.f2 b.f3).num = 0 := fun h => zb (hz.1 h)
     rw [ovR3 hne (by omega)]
     unfold ovV overB kinB kB kS kN kE
     rw [hlb, hlb2, hlb3, cmpQ_zero]
     simp only [if_neg na, if_neg nb, decide_eq_false na, decide_eq_false nb, if_neg za, if_neg zb']
     rw [Bool.eq_iff_iff]
     have hza : (a.f2 == 0) = false := by simpa using za
     simp only [Bool.and_eq_true, beq_iff_eq, decide_eq_true_eq, hza, Bool.false_or, true_and, and_true]
     rw [after_iff c0 c2 a5]
     have hk : (a.f2 = (qq b.f2 b.f3).num ∧ a.f3 = ((qq b.f2 b.f3).den : Int)) ↔ a.f2 * b.f3 = b.f2 * a.f3 := by
      rw [← qq_eq (by omega) (by omega)]
      constructor
      ·rintro ⟨h1, h2⟩
       rw [h1, h2, qq_self]
      ·intro h
       rw [← h]
       exact ⟨hl.1.symm, hl.2.symm⟩
     simp [hk]
theorem isEmpty_f (x : Ed) : dioramaref10_isEmpty.f x.f0 x.f1 x.f2 x.f3 = some (decide (x.f1 = -1)) := by
 unfold dioramaref10_isEmpty.f
 congr 1
theorem rover_f {ms ts : Int} (hc : Ck ms ts) {a b : Ed} (ha : Wd a) (hd : a.f0 ≤ 1099511627776) (hb : Vd b) : Ev (fun k => dioramaref10_over.f k a.f0 a.f1 a.f2 a.f3 b.f0 b.f1 b.f2 b.f3 ms ts) (ovR ms ts a b) := by
 have c0 := hc.m0
 have c1 := hc.m1
 have c2 := hc.t0
 have c3 := hc.t1
 have a0 := ha.d0
 have a1 := ha.m0
 have a2 := ha.m1
 have a3 := ha.n0
 have a4 := ha.n1
 have a5 := ha.e0
 have a6 := ha.e1
 have b1 := hb.m0
 have b2 := hb.m1
 have b3 := hb.n0
 have b4 := hb.n1
 have b5 := hb.e0
 have b6 := hb.e1
 have hj0 : ∀ z : Bool, z = decide (a.f1 = -1 ∨ b.f1 = -1) → Ev (fun k => dioramaref10_over.j0 k ms ts z a.f0 a.f1 a.f2 a.f3 b.f0 b.f1 b.f2 b.f3) (ovR ms ts a b) := by
  intro z hz
  refine Ev.step (fun k => by rw [dioramaref10_over.j0]) ?_
  unfold ovR
  by_cases h : a.f1 = -1 ∨ b.f1 = -1
  ·rw [hz, decide_eq_true h, if_pos h]
   refine Ev.congr (fun k => if_pos rfl) ?_
   rw [isEmpty_f, isEmpty_f]
   by_cases h1 : a.f1 = -1
   ·refine Ev.congr (f := fun _ => some (decide (a.f1 = -1 ∧ b.f1 = -1))) (fun k => ?_) (Ev.now _)
    simp [h1]
   ·refine Ev.congr (f := fun _ => some (decide (a.f1 = -1 ∧ b.f1 = -1))) (fun k => ?_) (Ev.now _)
    simp [h1]
  ·rw [hz, decide_eq_false h, if_neg h]
   refine Ev.congr (fun k => if_neg (by decide)) ?_
   have hj1 : ∀ y : Bool, y = decide (a.f2 = 0 ∨ b.f2 = 0) → Ev (fun k => dioramaref10_over.j1 k ms ts y a.f0 a.f1 a.f2 a.f3 b.f0 b.f1 b.f2 b.f3) (if a.f2 = 0 ∨ b.f2 = 0 then decide (a.f2 = 0 ∧ b.f2 = 0 ∧ a.f1 = b.f1) else decide (a.f2 * b.f3 = b.f2 * a.f3 ∧ qq a.f1 ts + qq a.f0 ms * qq a.f2 a.f3 = qq b.f1 ts)) := by
    intro y hy
    refine Ev.step (fun k => by rw [dioramaref10_over.j1]) ?_
    by_cases h2 : a.f2 = 0 ∨ b.f2 = 0
    ·rw [hy, decide_eq_true h2, if_pos h2]
     refine Ev.congr (f := fun _ => some (decide (a.f2 = 0 ∧ b.f2 = 0 ∧ a.f1 = b.f1))) (fun k => ?_) (Ev.now _)
     by_cases z1 : a.f2 = 0
     ·by_cases z2 : b.f2 = 0
      ·rw [if_pos rfl, if_pos z1, if_pos z2]; simp [z1, z2]; rfl
      ·rw [if_pos rfl, if_pos z1, if_neg z2]; simp [z2]
     ·rw [if_pos rfl, if_neg z1]; simp [z1]
    ·rw [hy, decide_eq_false h2, if_neg h2]
     refine Ev.congr (fun k => if_neg (by decide)) ?_
     have p1 : 0 ≤ a.f2 * b.f3 := Int.mul_nonneg a3 (by omega)
     have p2 : a.f2 * b.f3 ≤ 1000 * 1000 := Int.mul_le_mul a4 b6 (by omega) (by omega)
     have p3 : 0 ≤ b.f2 * a.f3 := Int.mul_nonneg b3 (by omega)
     have p4 : b.f2 * a.f3 ≤ 1000 * 1000 := Int.mul_le_mul b4 a6 (by omega) (by omega)
     rw [w64 (by omega) (by omega), w64 (by omega) (by omega)]
     by_cases h3 : a.f2 * b.f3 = b.f2 * a.f3
     ·refine Ev.congr (fun k => if_pos h3) ?_
      obtain ⟨e1, x1, y1, v1, r1⟩ := ratio_f a.f0 ms (by omega) (by omega) (by omega) (by omega)
      obtain ⟨e2, x2, y2, v2, r2⟩ := media_f a.f0 a.f1 a.f2 a.f3 ts a3 (by omega) a5 (by omega) (by omega) (by omega) c2 c3 r1 (by omega)
      obtain ⟨e3, x3, y3, v3, r3⟩ := ratio_f b.f1 ts (by omega) (by omega) (by omega) (by omega)
      have e : decide (a.f2 * b.f3 = b.f2 * a.f3 ∧ qq a.f1 ts + qq a.f0 ms * qq a.f2 a.f3 = qq b.f1 ts) = decide (qq a.f1 ts + qq a.f0 ms * qq a.f2 a.f3 = qq b.f1 ts) := by simp [h3]
      rw [e]
      exact Ev.bind v1 (Ev.bind v2 (Ev.bind v3 (Ev.bind (equalR_f r2 r3 (by omega)) (Ev.now _))))
     ·rw [decide_eq_false (fun h => h3 h.1)]
      exact Ev.congr (fun k => if_neg h3) (Ev.now _)
   by_cases h1 : a.f2 = 0
   ·exact Ev.congr (fun k => if_pos h1) (hj1 true (by simp [h1]))
   ·refine Ev.congr (fun k => if_neg h1) (hj1 _ ?_)
    simp [h1]; rfl
 unfold dioramaref10_over.f
 rw [isEmpty_f, isEmpty_f]
 by_cases h1 : a.f1 = -1
 ·refine Ev.congr (fun k => ?_) (hj0 true (by simp [h1]))
  simp [h1]
 ·refine Ev.congr (fun k => ?_) (hj0 (decide (b.f1 = -1)) (by simp [h1]))
  simp [h1]
end Go.Proofs.Ytpbhepdgamoiaaa.Qn
namespace Go.Proofs.Ytpbhepdgamoiaaa.Qo
open Go.RowKit Go Go.Proofs.YtpbhepdgamoiaaaW.PrintWords Go.Proofs.YtpbhepdgamoiaaaW.PrintLast Go.Proofs.YtpbhepdgamoiaaaW.PrintMore Go.Proofs.Ytpbhepdgamoiaaa.Ml Go.Proofs.Ytpbhepdgamoiaaa.Mn Go.Proofs.Ytpbhepdgamoiaaa.Nd Go.Proofs.Ytpbhepdgamoiaaa.Pa Go.Proofs.Ytpbhepdgamoiaaa.Pb Go.Proofs.Ytpbhepdgamoiaaa.Rf Go.Proofs.Ytpbhepdgamoiaaa.Er Go.Proofs.Ytpbhepdgamoiaaa.Ek Go.Proofs.Ytpbhepdgamoiaaa.E Go.Proofs.Ytpbhepdgamoiaaa.Pe Go.Proofs.Ytpbhepdgamoiaaa.Pf Go.Proofs.Ytpbhepdgamoiaaa.Pg Go.Proofs.Ytpbhepdgamoiaaa.Qr Go.Proofs.Ytpbhepdgamoiaaa.Qn
set_option linter.unusedVariables false
set_option linter.unusedSimpArgs false
theorem rlow_f {x : Ed} (h : Vd x) : dioramaref10_lowest.f x.f0 x.f1 x.f2 x.f3 = some ((lowV x).f0, (lowV x).f1, (lowV x).f2, (lowV x).f3) := low_f h
theorem push_lw {ms ts : Int} {out : List Ed} {e : Ed} (h : ∀ x ∈ out, Lw x) (he : Lw e) : ∀ x ∈ push ms ts out e, Lw x := by
 cases out with
 | nil => simpa [push] using he
 | cons a t =>
  simp only [push]
  split
  ·intro x hx
   simp only [List.mem_cons] at hx
   rcases hx with rfl | hx
   ·exact h a (by simp)
   ·exact h x (by simp [hx])
  ·intro x hx
   simp only [List.mem_cons] at hx
   rcases hx with rfl | hx
   ·exact he
   ·exact h x (by simpa using hx)
theorem rnormal_l {ms ts : Int} (hc : Ck ms ts) (l : List Ed) (hV : ∀ x ∈ l, Vd x) (hl : l.length ≤ 1000000000) (hsum : sumD l ≤ 1099511627776) (rest : List Ed) :
  ∀ pre out, l = pre ++ rest → sumD out = sumD pre → (∀ x ∈ out, Wd x) → (∀ x ∈ out, Lw x) → out.length ≤ pre.length →
   Ev (fun k => dioramaref10_normal.l0 k l ms ts out.reverse (pre.length : Int)) (nrmR ms ts out rest).reverse := by
 induction rest with
 | nil =>
  intro pre out he hs hw hlw ho
  subst he
  refine Ev.step (f := fun _ => some out.reverse) (fun k => ?_) (Ev.now _)
  simp only [dioramaref10_normal.l0, List.append_nil]
  rw [if_neg (by omega)]
 | cons x t ih =>
  intro pre out he hs hw hlw ho
  have hlen : l.length = pre.length + (t.length + 1) := by rw [he]; simp
  have hx : rd_T77 l (pre.length : Int) = x := by rw [he]; exact rd_at pre x t
  have hvx : Vd x := hV x (by rw [he]; simp)
  have hst : 0 ≤ sumD t := sumD_nonneg (fun y hy => hV y (by rw [he]; simp [hy]))
  have hsl : sumD l = sumD pre + x.f0 + sumD t := by rw [he, sumD_app]; simp only [sumD]; omega
  have hs0 : 0 ≤ sumD pre := by rw [← hs]; exact wd_sum hw
  have hd0 := hvx.d0
  have hsp : sumD (pre ++ [x]) = sumD pre + x.f0 := by rw [sumD_app]; simp [sumD]
  have hwl := wd_low hvx
  have hr := ih (pre ++ [x]) (push ms ts out (lowV x)) (by rw [he]; simp) (by rw [push_sum, hs, hsp]; rfl) (push_wd hw hwl) (push_lw hlw (lw_low x)) (by have := push_len ms ts out (lowV x); simp only [List.length_append, List.length_cons, List.length_nil]; omega)
  have hn : nrmR ms ts out (x :: t) = nrmR ms ts (push ms ts out (lowV x)) t := rfl
  have hpl : wrap64 ((pre.length : Int) + 1) = ((pre ++ [x]).length : Int) := by rw [w64 (by omega) (by omega)]; simp
  rw [hn]
  have hstep : ∀ k, dioramaref10_normal.l0 (k + 1) l ms ts out.reverse (pre.length : Int) = (if (out.reverse.length : Int) > 0 then (if 0 ≤ (wrap64 ((out.reverse.length : Int) - 1)) then (if (wrap64 ((out.reverse.length : Int) - 1)) < (out.reverse.length : Int) then ((dioramaref10_over.f k ((rd_T77 out.reverse (wrap64 ((out.reverse.length : Int) - 1))).f0) ((rd_T77 out.reverse (wrap64 ((out.reverse.length : Int) - 1))).f1) ((rd_T77 out.reverse (wrap64 ((out.reverse.length : Int) - 1))).f2) ((rd_T77 out.reverse (wrap64 ((out.reverse.length : Int) - 1))).f3) x.f0 x.f1 x.f2 x.f3 ms ts).bind fun t => (if t = true then (dioramaref10_normal.l0 k l ms ts (out.reverse.set ((wrap64 ((out.reverse.length : Int) - 1)) : Int).toNat (⟨wrap64 (((rd_T77 out.reverse (wrap64 ((out.reverse.length : Int) - 1))).f0) + x.f0), (rd_T77 out.reverse (wrap64 ((out.reverse.length : Int) - 1))).f1, (rd_T77 out.reverse (wrap64 ((out.reverse.length : Int) - 1))).f2, (rd_T77 out.reverse (wrap64 ((out.reverse.length : Int) - 1))).f3⟩ : Ed)) ((pre ++ [x]).length : Int)) else (if out.reverse.length < 4398046511104 then (dioramaref10_normal.l0 k l ms ts (out.reverse ++ [lowV x]) ((pre ++ [x]).length : Int)) else (none)))) else (none)) else (none)) else (if out.reverse.length < 4398046511104 then (dioramaref10_normal.l0 k l ms ts (out.reverse ++ [lowV x]) ((pre ++ [x]).length : Int)) else (none))) := by
   intro k
   simp only [dioramaref10_normal.l0]
   rw [if_pos (by omega), hx, rlow_f hvx, hpl]
   simp only [Option.bind_some, show 0 ≤ (pre.length : Int) by omega, if_true]
  cases out with
  | nil =>
   refine Ev.step (f := fun k => dioramaref10_normal.l0 k l ms ts (push ms ts [] (lowV x)).reverse ((pre ++ [x]).length : Int)) (fun k => ?_) hr
   rw [hstep, if_neg (show ¬ (([] : List Ed).reverse.length : Int) > 0 by simp), if_pos (show ([] : List Ed).reverse.length < 4398046511104 by simp)]
   rfl
  | cons a o =>
   have hla : (a :: o).reverse.length = o.length + 1 := by simp
   have hra : rd_T77 (a :: o).reverse (o.length : Int) = a := by
    rw [List.reverse_cons]
    have := rd_at o.reverse a []
    rw [List.length_reverse] at this
    exact this
   have hol : o.length + 1 ≤ pre.length := ho
   have hsa := wd_sum (l := o) (fun y hy => hw y (by simp [hy]))
   have hda : a.f0 + x.f0 ≤ 1099511627776 := by simp only [sumD] at hs; omega
   have ha0 := (hw a (by simp)).d0
   have hov := rover_f hc (hw a (by simp)) (by omega) hvx
   rw [← ov_eq hc (hw a (by simp)) (hlw a (by simp)) hvx] at hov
   refine Ev.step (f := fun k => (dioramaref10_over.f k a.f0 a.f1 a.f2 a.f3 x.f0 x.f1 x.f2 x.f3 ms ts).bind fun t => (if t = true then (dioramaref10_normal.l0 k l ms ts ((⟨a.f0 + x.f0, a.f1, a.f2, a.f3⟩ : Ed) :: o).reverse ((pre ++ [x]).length : Int)) else (dioramaref10_normal.l0 k l ms ts (lowV x :: a :: o).reverse ((pre ++ [x]).length : Int)))) (fun k => ?_) (Ev.bind hov ?_)
   ·rw [hstep, hla, if_pos (by omega), w64 (by omega) (by omega), show ((o.length + 1 : Nat) : Int) - 1 = (o.length : Int) by omega, if_pos (by omega), if_pos (by omega), hra, w64 (by omega) (by omega), if_pos (show o.length + 1 < 4398046511104 by omega)]
    have e1 : (a :: o).reverse.set (o.length : Int).toNat (⟨a.f0 + x.f0, a.f1, a.f2, a.f3⟩ : Ed) = ((⟨a.f0 + x.f0, a.f1, a.f2, a.f3⟩ : Ed) :: o).reverse := by
     rw [List.reverse_cons, List.reverse_cons, Int.toNat_natCast]
     have : o.length = o.reverse.length := by simp
     rw [this, List.set_append_right _ _ (Nat.le_refl _)]
     simp
    rw [e1, List.reverse_cons (a := lowV x)]
   ·have hp : push ms ts (a :: o) (lowV x) = if ovV ms ts a (lowV x) = true then (⟨a.f0 + (lowV x).f0, a.f1, a.f2, a.f3⟩ : Ed) :: o else lowV x :: a :: o := rfl
    rw [hp] at hr
    rw [hp]
    by_cases hb : ovV ms ts a (lowV x) = true
    ·rw [if_pos hb] at hr ⊢
     exact Ev.congr (fun k => if_pos hb) hr
    ·rw [if_neg hb] at hr ⊢
     exact Ev.congr (fun k => if_neg hb) hr
theorem rnormal_f {ms ts : Int} (hc : Ck ms ts) (l : List Ed) (hV : ∀ x ∈ l, Vd x) (hl : l.length ≤ 1000000000) (hsum : sumD l ≤ 1099511627776) : Ev (fun k => dioramaref10_normal.f k l ms ts) (nrm ms ts l) :=
 rnormal_l hc l hV hl hsum l [] [] rfl rfl (by simp) (by simp) (by simp)
theorem RV.int {b : Bool} {x y : List Int} {z : Int} {n : Nat} (h : RV b x y (qq z 1) n) (hy : dv 1000000000 y = 1) : sg b (dv 1000000000 x) = z := by
 have e := h.eq
 rw [hy, qq_eq (by decide) (by decide)] at e
 omega
structure RZ (b : Bool) (x y : List Int) (z : Int) (n : Nat) : Prop where
 nx : Nn x
 ny : Nn y
 y1 : dv 1000000000 y = 1
 eq : sg b (dv 1000000000 x) = z
 lx : x.length ≤ n
 ly : y.length ≤ n
def ZE (f : Nat → Option (Bool × List Int × List Int)) (z : Int) (n : Nat) : Prop := ∃ b x y, Ev f (b, x, y) ∧ RZ b x y z n
theorem ratioZ_f (n : Int) (hn : -9223372036854775807 ≤ n) (hn1 : n ≤ 9223372036854775807) : ZE (fun k => dioramaref10_ratio.f k n 1) n 3 := by
 obtain ⟨y, ey, ny, vy, ly⟩ := of_f 1 (by omega) (by omega)
 by_cases h : n < 0
 ·obtain ⟨x, ex, nx, vx, lx⟩ := of_f (-n) (by omega) (by omega)
  refine ⟨true, x, y, ?_, ⟨nx, ny, vy, by rw [vx]; simp [sg], lx, ly⟩⟩
  refine Ev.congr (fun k => if_pos h) ?_
  rw [w64 (by omega) (by omega)]
  exact Ev.bind ex (Ev.bind ey (Ev.now _))
 ·obtain ⟨x, ex, nx, vx, lx⟩ := of_f n (by omega) hn1
  refine ⟨false, x, y, ?_, ⟨nx, ny, vy, by rw [vx]; simp [sg], lx, ly⟩⟩
  refine Ev.congr (fun k => if_neg h) ?_
  exact Ev.bind ex (Ev.bind ey (Ev.now _))
theorem plusZ_f {b1 b2 : Bool} {x1 y1 x2 y2 : List Int} {p q : Int} {n m : Nat} (h1 : RZ b1 x1 y1 p n) (h2 : RZ b2 x2 y2 q m) (hl : n + m + 2 ≤ 1000000) : ZE (fun k => dioramaref10_plus.f k b1 x1 y1 b2 x2 y2) (p + q) (n + m + 1) := by
 have l1 := h1.lx
 have l2 := h1.ly
 have l3 := h2.lx
 have l4 := h2.ly
 obtain ⟨u, eu, nu, vu, lu⟩ := times_f x1 y2 h1.nx h2.ny (by omega)
 obtain ⟨v, ev, nv, vv, lv⟩ := times_f x2 y1 h2.nx h1.ny (by omega)
 obtain ⟨y, ey, ny, vy, ly⟩ := times_f y1 y2 h1.ny h2.ny (by omega)
 rw [h2.y1, Int.mul_one] at vu
 rw [h1.y1, Int.mul_one] at vv
 rw [h1.y1, h2.y1] at vy
 have e1 := h1.eq
 have e2 := h2.eq
 rw [← vu] at e1
 rw [← vv] at e2
 by_cases hb : b1 = b2
 ·subst hb
  obtain ⟨s, es, ns, vs, ls⟩ := plus_f u v nu nv (by omega) (by omega)
  refine ⟨b1, s, y, ?_, ⟨ns, ny, vy, ?_, by omega, by omega⟩⟩
  ·refine Ev.congr (fun k => rfl) (Ev.bind (a := (b1, s, y)) (Ev.congr (fun k => rfl) (Ev.bind eu (Ev.bind ev (Ev.bind ey ?_)))) (Ev.now _))
   exact Ev.congr (fun k => if_pos (by simp)) (Ev.bind es (Ev.now _))
  ·rw [vs]
   cases b1 <;> simp [sg] at e1 e2 ⊢ <;> omega
 ·have hcp := compare_f u v nu nv (by omega) (by omega)
  have hne : ¬ (b1 == b2) = true := by simpa using hb
  by_cases hle : dv 1000000000 v ≤ dv 1000000000 u
  ·obtain ⟨s, es, ns, vs, ls⟩ := minus_f u v nu nv (by omega) hle
   refine ⟨b1, s, y, ?_, ⟨ns, ny, vy, ?_, by omega, by omega⟩⟩
   ·refine Ev.congr (fun k => rfl) (Ev.bind (a := (b1, s, y)) (Ev.congr (fun k => rfl) (Ev.bind eu (Ev.bind ev (Ev.bind ey ?_)))) (Ev.now _))
    refine Ev.congr (fun k => if_neg hne) (Ev.bind hcp ?_)
    refine Ev.congr (fun k => if_pos ?_) (Ev.bind es (Ev.now _))
    unfold cmpI
    rw [if_neg (by omega)]
    split <;> decide
   ·rw [vs]
    cases b1 <;> cases b2 <;> simp [sg] at hb e1 e2 ⊢ <;> omega
  ·obtain ⟨s, es, ns, vs, ls⟩ := minus_f v u nv nu (by omega) (by omega)
   refine ⟨b2, s, y, ?_, ⟨ns, ny, vy, ?_, by omega, by omega⟩⟩
   ·refine Ev.congr (fun k => rfl) (Ev.bind (a := (b2, s, y)) (Ev.congr (fun k => rfl) (Ev.bind eu (Ev.bind ev (Ev.bind ey ?_)))) (Ev.now _))
    refine Ev.congr (fun k => if_neg hne) (Ev.bind hcp ?_)
    refine Ev.congr (fun k => if_neg ?_) (Ev.bind es (Ev.now _))
    unfold cmpI
    rw [if_pos (by omega)]
    decide
   ·rw [vs]
    cases b1 <;> cases b2 <;> simp [sg] at hb e1 e2 ⊢ <;> omega
theorem told_l {ms ts : Int} (hc : Ck ms ts) (l : List Ed) (hV : ∀ x ∈ l, Vd x) (hl : l.length ≤ 10000) (rest : List Ed) :
  ∀ pre b x y, l = pre ++ rest → RZ b x y (sumD pre) (3 + 4 * pre.length) → Ev (fun k => dioramaref10_told.l0 k l ms ts (pre.length : Int) b x y) (nrmV ms ts l) := by
 induction rest with
 | nil =>
  intro pre b x y he hz
  simp only [List.append_nil] at he
  subst he
  have h0 : 0 ≤ sumD l := sumD_nonneg hV
  have hx0 : 0 ≤ dv 1000000000 x := dv_nonneg (by decide) hz.nx.dg
  have hxe : dv 1000000000 x = sumD l := by
   have := hz.eq
   cases b <;> simp [sg] at this <;> omega
  have hsm := small_f x 1099511627776 hz.nx (by have := hz.lx; omega) (by decide) (by decide)
  rw [hxe] at hsm
  refine Ev.step (fun k => by rw [dioramaref10_told.l0]) ?_
  refine Ev.congr (fun k => if_neg (by omega)) (Ev.bind hsm ?_)
  unfold nrmV
  by_cases hb : 1099511627776 < sumD l
  ·rw [if_pos hb, if_pos hb]
   exact Ev.congr (fun k => if_neg (by simp)) (Ev.now _)
  ·rw [if_neg hb, if_neg hb]
   refine Ev.congr (fun k => if_pos rfl) (Ev.bind (rnormal_f hc l hV (by omega) (by omega)) ?_)
   unfold fin nrm
   by_cases h20 : 20 < (nrmR ms ts [] l).length
   ·rw [if_pos h20]
    exact Ev.congr (fun k => if_pos (by rw [List.length_reverse]; omega)) (Ev.now _)
   ·rw [if_neg h20]
    exact Ev.congr (fun k => if_neg (by rw [List.length_reverse]; omega)) (Ev.now _)
 | cons e t ih =>
  intro pre b x y he hz
  have hlen : l.length = pre.length + (t.length + 1) := by rw [he]; simp
  have hx : rd_T77 l (pre.length : Int) = e := by rw [he]; exact rd_at pre e t
  have hv : Vd e := hV e (by rw [he]; simp)
  have hd0 := hv.d0
  have hd1 := hv.d1
  obtain ⟨b2, x2, y2, e2, z2⟩ := ratioZ_f e.f0 (by omega) (by omega)
  obtain ⟨b3, x3, y3, e3, z3⟩ := plusZ_f hz z2 (by omega)
  have hsp : sumD (pre ++ [e]) = sumD pre + e.f0 := by rw [sumD_app]; simp [sumD]
  have hr := ih (pre ++ [e]) b3 x3 y3 (by rw [he]; simp) (by
   rw [hsp]
   refine ⟨z3.nx, z3.ny, z3.y1, z3.eq, ?_, ?_⟩
   ·have := z3.lx; simp only [List.length_append, List.length_cons, List.length_nil]; omega
   ·have := z3.ly; simp only [List.length_append, List.length_cons, List.length_nil]; omega)
  refine Ev.step (fun k => by rw [dioramaref10_told.l0]) ?_
  refine Ev.congr (fun k => if_pos (by omega)) (Ev.congr (fun k => if_pos (by omega)) ?_)
  rw [hx]
  refine Ev.bind e2 (Ev.bind e3 ?_)
  have hpl : wrap64 ((pre.length : Int) + 1) = ((pre ++ [e]).length : Int) := by rw [w64 (by omega) (by omega)]; simp
  rw [hpl]
  exact hr
theorem told_f {ms ts : Int} (hc : Ck ms ts) (l : List Ed) (hV : ∀ x ∈ l, Vd x) (hl : l.length ≤ 10000) : Ev (fun k => dioramaref10_told.f k l ms ts) (nrmV ms ts l) := by
 obtain ⟨b, x, y, e, z⟩ := ratioZ_f 0 (by decide) (by decide)
 exact Ev.congr (fun k => rfl) (Ev.bind e (told_l hc l hV hl l [] b x y rfl z))
end Go.Proofs.Ytpbhepdgamoiaaa.Qo
namespace Go.Proofs.Ytpbhepdgamoiaaa.Qw
open Go.RowKit Go Go.Proofs.YtpbhepdgamoiaaaW.PrintWords Go.Proofs.YtpbhepdgamoiaaaW.PrintLast Go.Proofs.YtpbhepdgamoiaaaW.PrintMore Go.Proofs.Ytpbhepdgamoiaaa.Ml Go.Proofs.Ytpbhepdgamoiaaa.Mn Go.Proofs.Ytpbhepdgamoiaaa.Nd Go.Proofs.Ytpbhepdgamoiaaa.Pa Go.Proofs.Ytpbhepdgamoiaaa.Pb Go.Proofs.Ytpbhepdgamoiaaa.Pc Go.Proofs.Ytpbhepdgamoiaaa.Rf Go.Proofs.Ytpbhepdgamoiaaa.Er Go.Proofs.Ytpbhepdgamoiaaa.Ek Go.Proofs.Ytpbhepdgamoiaaa.E Go.Proofs.Ytpbhepdgamoiaaa.Pe Go.Proofs.Ytpbhepdgamoiaaa.Pf Go.Proofs.Ytpbhepdgamoiaaa.Qr Go.Proofs.Ytpbhepdgamoiaaa.Qn Go.Proofs.Ytpbhepdgamoiaaa.Ew
set_option linter.unusedVariables false
set_option linter.unusedSimpArgs false
theorem qq_one (z : Int) : qq z 1 = (z : Rat) := by
 rw [qq_div, show ((1 : Int) : Rat) = 1 from rfl]
 grind
theorem whV_qq {a b : Int} (hb : 0 < b) : whV (qq a b) = if a % b = 0 then (if 1099511627776 < a / b then (0, 2) else (a / b, 0)) else (0, 20) := by
 by_cases h : a % b = 0
 ·have e : qq a b = ((a / b : Int) : Rat) := by
   rw [← qq_one, qq_eq (by omega) (by decide)]
   have := Int.mul_ediv_add_emod a b
   rw [h, Int.add_zero] at this
   rw [Int.mul_one, Int.mul_comm]
   exact this.symm
  rw [if_pos h, e]
  unfold whV
  rw [if_pos (Rat.den_intCast _), Rat.num_intCast]
 ·rw [if_neg h]
  unfold whV
  refine if_neg fun hd => h ?_
  obtain ⟨g, hg, e1, e2⟩ := qq_parts (a := a) hb
  rw [hd] at e2
  have : b = g := by rw [e2]; simp
  rw [e1, this]
  exact Int.mul_emod_left _ _
theorem whole_f {b : Bool} {x y : List Int} {q : Rat} {n : Nat} (h : RV b x y q n) (hn : n ≤ 1000) (hq : ¬ q < 0) : Ev (fun k => dioramaref10_whole.f k b x y) (whV q) := by
 have lx := h.lx
 have ly := h.ly
 have hz : q = qq (dv 1000000000 x) (dv 1000000000 y) := by
  have hs := h.sign
  have he := h.eq
  rw [decide_eq_false hq] at hs
  cases b with
  | false => exact he
  | true =>
   have h0 : x.length = 0 := by
    rw [Bool.true_and, decide_eq_false_iff_not] at hs
    omega
   have h1 : x = [] := by cases x with | nil => rfl | cons a t => simp at h0
   rw [he, h1]
   simp [sg, dv]
 obtain ⟨r1, r2, he, n1, n2, e1, e2, l1, l2⟩ := over_f x y h.nx h.ny (by omega) (by omega) h.pos
 have h2 : 0 ≤ dv 1000000000 r2 := dv_nonneg (by decide) n2.dg
 have hu := (Int.ediv_emod_unique (a := dv 1000000000 x) (b := dv 1000000000 y) (q := dv 1000000000 r1) (r := dv 1000000000 r2) h.pos).2 ⟨by rw [e1, Int.add_comm, Int.mul_comm], h2, e2⟩
 rw [hz, whV_qq h.pos, hu.1, hu.2]
 have hr : dv 1000000000 r2 = 0 ↔ r2 = [] := dv_eq_zero (by decide) n2
 refine Ev.congr (fun k => rfl) (Ev.bind he ?_)
 by_cases h0 : dv 1000000000 r2 = 0
 ·rw [if_pos h0]
  have hl : ¬ ((r2.length : Int) > 0) := by rw [hr.1 h0]; simp
  have hs := small_f r1 1099511627776 n1 (by omega) (by decide) (by decide)
  refine Ev.congr (fun k => if_neg hl) (Ev.bind hs ?_)
  by_cases hb : 1099511627776 < dv 1000000000 r1
  ·rw [if_pos hb, if_pos hb]
   exact Ev.congr (fun k => if_neg (by simp)) (Ev.now _)
  ·rw [if_neg hb, if_neg hb]
   exact Ev.congr (fun k => if_pos rfl) (Ev.now _)
 ·rw [if_neg h0]
  have hl : (r2.length : Int) > 0 := by
   cases r2 with
   | nil => exact absurd (hr.2 rfl) h0
   | cons a t => simp
  exact Ev.congr (fun k => if_pos hl) (Ev.now _)
theorem qq_nonneg {a b : Int} (ha : 0 ≤ a) (hb : 0 < b) : ¬ qq a b < 0 := by
 have e : (0 : Rat) = qq 0 1 := by unfold qq; simp
 rw [e, qq_lt hb (by decide)]
 omega
end Go.Proofs.Ytpbhepdgamoiaaa.Qw
namespace Go.Proofs.Ytpbhepdgamoiaaa.Qp
open Go.RowKit Go Go.Proofs.YtpbhepdgamoiaaaW.PrintWords Go.Proofs.YtpbhepdgamoiaaaW.PrintLast Go.Proofs.YtpbhepdgamoiaaaW.PrintMore Go.Proofs.Ytpbhepdgamoiaaa.Ml Go.Proofs.Ytpbhepdgamoiaaa.Mn Go.Proofs.Ytpbhepdgamoiaaa.Nd Go.Proofs.Ytpbhepdgamoiaaa.Pa Go.Proofs.Ytpbhepdgamoiaaa.Pb Go.Proofs.Ytpbhepdgamoiaaa.Rf Go.Proofs.Ytpbhepdgamoiaaa.Er Go.Proofs.Ytpbhepdgamoiaaa.Ek Go.Proofs.Ytpbhepdgamoiaaa.E Go.Proofs.Ytpbhepdgamoiaaa.Pe Go.Proofs.Ytpbhepdgamoiaaa.Pf Go.Proofs.Ytpbhepdgamoiaaa.Pg Go.Proofs.Ytpbhepdgamoiaaa.Qr Go.Proofs.Ytpbhepdgamoiaaa.Qn Go.Proofs.Ytpbhepdgamoiaaa.Qo
set_option linter.unusedVariables false
set_option linter.unusedSimpArgs false
theorem bad_f (x : Ed) : dioramaref10_badEdit.f x.f0 x.f1 x.f2 x.f3 = some (!decide (Vd x)) := by
 unfold dioramaref10_badEdit.f
 rw [isEmpty_f]
 by_cases h1 : x.f0 < 1
 ·rw [if_pos h1, decide_eq_false (fun h => by have := h.d0; omega)]; rfl
 rw [if_neg h1]
 by_cases h2 : x.f0 > 1099511627776
 ·rw [if_pos h2, decide_eq_false (fun h => by have := h.d1; omega)]; rfl
 rw [if_neg h2]
 by_cases h3 : x.f1 < -1
 ·rw [if_pos h3, decide_eq_false (fun h => by have := h.m0; omega)]; rfl
 rw [if_neg h3]
 by_cases h4 : x.f1 > 1099511627776
 ·rw [if_pos h4, decide_eq_false (fun h => by have := h.m1; omega)]; rfl
 rw [if_neg h4]
 by_cases h5 : x.f2 < 0
 ·rw [if_pos h5, decide_eq_false (fun h => by have := h.n0; omega)]; rfl
 rw [if_neg h5]
 by_cases h6 : x.f2 > 1000
 ·rw [if_pos h6, decide_eq_false (fun h => by have := h.n1; omega)]; rfl
 rw [if_neg h6]
 by_cases h7 : x.f3 < 1
 ·rw [if_pos h7, decide_eq_false (fun h => by have := h.e0; omega)]; rfl
 rw [if_neg h7]
 by_cases h8 : x.f3 > 1000
 ·rw [if_pos h8, decide_eq_false (fun h => by have := h.e1; omega)]; rfl
 rw [if_neg h8]
 simp only [Option.bind_some]
 by_cases h9 : x.f1 = -1
 ·rw [if_pos (decide_eq_true h9)]
  by_cases h10 : x.f2 = 1
  ·rw [if_pos h10]
   by_cases h11 : x.f3 = 1
   ·rw [decide_eq_true (show Vd x from ⟨by omega, by omega, by omega, by omega, by omega, by omega, by omega, by omega, fun _ => ⟨h10, h11⟩⟩), h11]
    rfl
   ·rw [decide_eq_false (fun h => h11 (h.em (by omega)).2)]
    simp [h11]
  ·rw [if_neg h10, decide_eq_false (fun h => h10 (h.em (by omega)).1)]
   rfl
 ·rw [if_neg (by simpa using h9), decide_eq_true (show Vd x from ⟨by omega, by omega, by omega, by omega, by omega, by omega, by omega, by omega, fun h => by omega⟩)]
  rfl
theorem rcheck_l (l : List Ed) (hl : l.length ≤ 20) (rest : List Ed) : ∀ pre, l = pre ++ rest → (∀ x ∈ pre, Vd x) → Ev (fun k => dioramaref10_Check.l0 k l (sumD pre) (pre.length : Int)) (if (∀ x ∈ rest, Vd x) ∧ sumD l ≤ 1099511627776 then 0 else 33) := by
 induction rest with
 | nil =>
  intro pre he hp
  subst he
  refine Ev.step (f := fun _ => some (if (∀ x ∈ ([] : List Ed), Vd x) ∧ sumD (pre ++ []) ≤ 1099511627776 then 0 else 33)) (fun k => ?_) (Ev.now _)
  simp only [dioramaref10_Check.l0, List.append_nil]
  rw [if_neg (by omega)]
  by_cases h : sumD pre > 1099511627776
  ·rw [if_pos h, if_neg (by intro hh; omega)]
  ·rw [if_neg h, if_pos ⟨by simp, by omega⟩]
 | cons x t ih =>
  intro pre he hp
  have hlen : l.length = pre.length + (t.length + 1) := by rw [he]; simp
  have hx : rd_T77 l (pre.length : Int) = x := by rw [he]; exact rd_at pre x t
  by_cases hV : Vd x
  ·have hs : sumD (pre ++ [x]) = sumD pre + x.f0 := by rw [sumD_app]; simp [sumD]
   have hb := sumD_le hp
   have h0 := sumD_nonneg hp
   have hr := ih (pre ++ [x]) (by rw [he]; simp) (by intro y hy; simp only [List.mem_append, List.mem_singleton] at hy; rcases hy with hy | rfl; exact hp y hy; exact hV)
   have e : ((∀ y ∈ x :: t, Vd y) ∧ sumD l ≤ 1099511627776) = ((∀ y ∈ t, Vd y) ∧ sumD l ≤ 1099511627776) := by
    apply propext
    constructor
    ·rintro ⟨h1, h2⟩; exact ⟨fun y hy => h1 y (by simp [hy]), h2⟩
    ·rintro ⟨h1, h2⟩; exact ⟨fun y hy => by simp only [List.mem_cons] at hy; rcases hy with rfl | hy; exact hV; exact h1 y hy, h2⟩
   simp only [e]
   refine Ev.step (fun k => ?_) hr
   simp only [dioramaref10_Check.l0]
   rw [if_pos (by omega), if_pos (by omega), hx, bad_f, decide_eq_true hV]
   simp only [Option.bind_some, Bool.not_true, if_neg (show ¬ (false = true) by decide)]
   rw [w64 (by have := hV.d0; omega) (by have := hV.d1; omega), w64 (by omega) (by omega), hs]
   simp
  ·refine Ev.step (f := fun _ => some 33) (fun k => ?_) ?_
   ·simp only [dioramaref10_Check.l0]
    rw [if_pos (by omega), if_pos (by omega), hx, bad_f, decide_eq_false hV]
    simp
   ·rw [if_neg (fun h => hV (h.1 x (by simp)))]
    exact Ev.now _
theorem rscale_f (n : Int) : dioramaref10_isScale.f n = some (decide (1 ≤ n ∧ n ≤ 1000000)) := by
 unfold dioramaref10_isScale.f
 by_cases h : n ≥ 1
 ·rw [if_pos h]; simp; omega
 ·rw [if_neg h]; simp; omega
theorem rcheck_f (l : List Ed) (ms ts : Int) : Ev (fun k => dioramaref10_Check.f k l ms ts) (chk l ms ts) := by
 have h0 : ∀ b, Ev (fun k => dioramaref10_Check.j0 k l b) (if b = true then 1 else if 20 < l.length then 2 else if (∀ x ∈ l, Vd x) ∧ sumD l ≤ 1099511627776 then 0 else 33) := by
  intro b
  by_cases hb : b = true
  ·rw [if_pos hb]
   refine Ev.step (f := fun _ => some 1) (fun k => ?_) (Ev.now _)
   simp only [dioramaref10_Check.j0]
   rw [if_pos hb]
  ·rw [if_neg hb]
   by_cases hl : 20 < l.length
   ·rw [if_pos hl]
    refine Ev.step (f := fun _ => some 2) (fun k => ?_) (Ev.now _)
    simp only [dioramaref10_Check.j0]
    rw [if_neg hb, if_pos (by omega)]
   ·rw [if_neg hl]
    refine Ev.step (fun k => ?_) (rcheck_l l (by omega) l [] rfl (by simp))
    simp only [dioramaref10_Check.j0]
    rw [if_neg hb, if_neg (by omega)]
    rfl
 unfold chk
 by_cases h1 : 1 ≤ ms ∧ ms ≤ 1000000
 ·by_cases h2 : 1 ≤ ts ∧ ts ≤ 1000000
  ·rw [if_neg (not_not_intro ⟨h1.1, h1.2, h2.1, h2.2⟩)]
   refine Ev.congr (fun k => ?_) (h0 false)
   unfold dioramaref10_Check.f
   rw [rscale_f, rscale_f, decide_eq_true h1, decide_eq_true h2]
   rfl
  ·rw [if_pos (fun h => h2 ⟨h.t0, h.t1⟩)]
   refine Ev.congr (fun k => ?_) (h0 true)
   unfold dioramaref10_Check.f
   rw [rscale_f, rscale_f, decide_eq_true h1, decide_eq_false h2]
   rfl
 ·rw [if_pos (fun h => h1 ⟨h.m0, h.m1⟩)]
  refine Ev.congr (fun k => ?_) (h0 true)
  unfold dioramaref10_Check.f
  rw [rscale_f, decide_eq_false h1]
  rfl
end Go.Proofs.Ytpbhepdgamoiaaa.Qp
namespace Go.Proofs.Ytpbhepdgamoiaaa.Qe
open Go.RowKit Go Go.Proofs.YtpbhepdgamoiaaaW.PrintWords Go.Proofs.YtpbhepdgamoiaaaW.PrintLast Go.Proofs.YtpbhepdgamoiaaaW.PrintMore Go.Proofs.Ytpbhepdgamoiaaa.Mn Go.Proofs.Ytpbhepdgamoiaaa.Er Go.Proofs.Ytpbhepdgamoiaaa.Ek Go.Proofs.Ytpbhepdgamoiaaa.E Go.Proofs.Ytpbhepdgamoiaaa.Pe Go.Proofs.Ytpbhepdgamoiaaa.Pf Go.Proofs.Ytpbhepdgamoiaaa.Pg
set_option linter.unusedVariables false
set_option linter.unusedSimpArgs false
theorem eqEdits_l (a b : List Ed) (hl : a.length ≤ 1000000) (ra : List Ed) : ∀ (pre rb : List Ed), a = pre ++ ra → b = pre ++ rb → ra.length = rb.length → Ev (fun k => dioramaref00_EqEdits.l0 k a b (pre.length : Int)) (decide (ra = rb)) := by
 induction ra with
 | nil =>
  intro pre rb ha hb hr
  have : rb = [] := by cases rb with | nil => rfl | cons _ _ => simp at hr
  subst this
  refine Ev.step (f := fun _ => some (decide (([] : List Ed) = []))) (fun k => ?_) (Ev.now _)
  simp only [dioramaref00_EqEdits.l0]
  rw [if_neg (by rw [ha]; simp)]
  simp
 | cons x t ih =>
  intro pre rb ha hb hr
  cases rb with
  | nil => simp at hr
  | cons y u =>
   have hx : rd_T77 a (pre.length : Int) = x := by rw [ha]; exact rd_at pre x t
   have hy : rd_T77 b (pre.length : Int) = y := by rw [hb]; exact rd_at pre y u
   have hla : a.length = pre.length + (t.length + 1) := by rw [ha]; simp
   have hlb : b.length = pre.length + (u.length + 1) := by rw [hb]; simp
   simp only [List.length_cons, Nat.add_right_cancel_iff] at hr
   by_cases hxy : x = y
   ·subst hxy
    have hi := ih (pre ++ [x]) u (by rw [ha]; simp) (by rw [hb]; simp) hr
    have e : decide (x :: t = x :: u) = decide (t = u) := by simp
    rw [e]
    refine Ev.step (fun k => ?_) hi
    simp only [dioramaref00_EqEdits.l0]
    rw [if_pos (by omega), if_pos (by omega), if_pos (by omega), hx, hy, ed_ne, if_neg (by simp), w64 (by omega) (by omega)]
    simp
   ·rw [decide_eq_false (by intro h; injection h with h _; exact hxy h)]
    refine Ev.step (f := fun _ => some false) (fun k => ?_) (Ev.now _)
    simp only [dioramaref00_EqEdits.l0]
    rw [if_pos (by omega), if_pos (by omega), if_pos (by omega), hx, hy, ed_ne, if_pos (by simpa using hxy)]
theorem eqEdits_f (a b : List Ed) (hl : a.length ≤ 1000000) : Ev (fun k => dioramaref00_EqEdits.f k a b) (decide (a = b)) := by
 by_cases h : a.length = b.length
 ·refine Ev.congr (fun k => ?_) (eqEdits_l a b hl a [] b rfl rfl h)
  unfold dioramaref00_EqEdits.f
  rw [if_pos (by omega)]; rfl
 ·rw [decide_eq_false (fun e => h (by rw [e]))]
  refine Ev.congr (fun k => ?_) (Ev.now _)
  unfold dioramaref00_EqEdits.f
  rw [if_neg (by omega)]
theorem eq_f (a : List Ed) (e : Int) (hl : a.length ≤ 1000000) : Ev (fun k => dioramalaw10_eq.f k a e a e) true := by
 have h := eqEdits_f a a hl
 rw [decide_eq_true rfl] at h
 refine Ev.congr (fun k => rfl) (Ev.bind h ?_)
 refine Ev.congr (fun k => if_pos rfl) ?_
 rw [show (e == e) = true by simp]
 exact Ev.now _
end Go.Proofs.Ytpbhepdgamoiaaa.Qe
namespace Go.Proofs.Ytpbhepdgamoiaaa.Fr
open Go.RowKit Go Go.Proofs.YtpbhepdgamoiaaaW.PrintWords Go.Proofs.YtpbhepdgamoiaaaW.PrintLast Go.Proofs.YtpbhepdgamoiaaaW.PrintMore Go.Proofs.Ytpbhepdgamoiaaa.Mn Go.Proofs.Ytpbhepdgamoiaaa.Rf Go.Proofs.Ytpbhepdgamoiaaa.Er Go.Proofs.Ytpbhepdgamoiaaa.Ek Go.Proofs.Ytpbhepdgamoiaaa.E Go.Proofs.Ytpbhepdgamoiaaa.Pe Go.Proofs.Ytpbhepdgamoiaaa.Pf Go.Proofs.Ytpbhepdgamoiaaa.Pg Go.Proofs.Ytpbhepdgamoiaaa.Qr Go.Proofs.Ytpbhepdgamoiaaa.Qn Go.Proofs.Ytpbhepdgamoiaaa.Qo Go.Proofs.Ytpbhepdgamoiaaa.Qp Go.Proofs.Ytpbhepdgamoiaaa.Qe Go.Proofs.Ytpbhepdgamoiaaa.Qw Go.Proofs.Ytpbhepdgamoiaaa.Oe
set_option linter.unusedVariables false
set_option linter.unusedSimpArgs false
def mapE (f : Ed → Int × Ed) (fin : List Ed → List Ed × Int) : List Ed → List Ed → List Ed × Int
 | out, [] => fin out
 | out, x :: t => if (f x).1 = 0 then mapE f fin (out ++ [(f x).2]) t else ([], (f x).1)
theorem mapE_ok {f : Ed → Int × Ed} {fin : List Ed → List Ed × Int} {out : List Ed} {x : Ed} {t : List Ed} {y : Ed} (h : f x = (0, y)) : mapE f fin out (x :: t) = mapE f fin (out ++ [y]) t := by
 simp only [mapE]
 rw [h, if_pos rfl]
theorem mapE_err {f : Ed → Int × Ed} {fin : List Ed → List Ed × Int} {out : List Ed} {x : Ed} {t : List Ed} {y : Ed} {e : Int} (h : f x = (e, y)) (he : e ≠ 0) : mapE f fin out (x :: t) = ([], e) := by
 simp only [mapE]
 rw [h, if_neg he]
def fstE (num den d : Int) (x : Ed) : Ed := if 0 ≤ x.f1 ∧ 0 < x.f2 then lowV ⟨d, x.f1, x.f2 * num, x.f3 * den⟩ else ⟨d, x.f1, x.f2, x.f3⟩
def fastV (num den : Int) (x : Ed) : Int × Ed :=
 if x.f0 * den % num = 0 then
  (if (0 ≤ x.f1 ∧ 0 < x.f2) ∧ (1000 < (fstE num den (x.f0 * den / num) x).f2 ∨ 1000 < (fstE num den (x.f0 * den / num) x).f3) then (33, x)
     else if 1099511627776 < x.f0 * den / num then (2, x) else (0, fstE num den (x.f0 * den / num) x))
 else (20, x)
theorem fastV_eq (num den : Int) (x : Ed) : fastV num den x =
 if x.f0 * den % num = 0 then
  (if (0 ≤ x.f1 ∧ 0 < x.f2) ∧ (1000 < (fstE num den (x.f0 * den / num) x).f2 ∨ 1000 < (fstE num den (x.f0 * den / num) x).f3) then (33, x)
     else if 1099511627776 < x.f0 * den / num then (2, x) else (0, fstE num den (x.f0 * den / num) x))
 else (20, x) := rfl
structure Rt (num den : Int) : Prop where
 n0 : 1 ≤ num
 n1 : num ≤ 1000
 d0 : 1 ≤ den
 d1 : den ≤ 1000
theorem prod_bd {a b : Int} (A B : Int) (ha : 1 ≤ a) (hA : a ≤ A) (hb : 1 ≤ b) (hB : b ≤ B) : 1 ≤ a * b ∧ a * b ≤ A * B := by
 have h1 := Int.mul_le_mul hA hB (by omega) (by omega)
 have h2 := Int.mul_pos (show 0 < a by omega) (show 0 < b by omega)
 omega
theorem quot_pos {a b : Int} (ha : 1 ≤ a) (hb : 1 ≤ b) (h : a % b = 0) : 1 ≤ a / b := by
 have h1 := Int.mul_ediv_add_emod a b
 refine Int.le_of_not_gt fun h2 => ?_
 have h3 := Int.mul_le_mul_of_nonneg_left (show a / b ≤ 0 by omega) (show 0 ≤ b by omega)
 omega
theorem quot_le {a b : Int} (ha : 0 ≤ a) : a / b ≤ a := Int.ediv_le_self b ha
theorem fast_vd {num den : Int} (hr : Rt num den) {x y : Ed} (hx : Vd x) (h : fastV num den x = (0, y)) : Vd y := by
 have hp := prod_bd 1099511627776 1000 hx.d0 hx.d1 hr.d0 hr.d1
 unfold fastV at h
 by_cases h0 : x.f0 * den % num = 0
 ·rw [if_pos h0] at h
  have hq := quot_pos hp.1 hr.n0 h0
  generalize x.f0 * den / num = d at h hq
  by_cases h1 : (0 ≤ x.f1 ∧ 0 < x.f2) ∧ (1000 < (fstE num den d x).f2 ∨ 1000 < (fstE num den d x).f3)
  ·rw [if_pos h1] at h; cases h
  ·rw [if_neg h1] at h
   by_cases h2 : 1099511627776 < d
   ·rw [if_pos h2] at h; cases h
   ·rw [if_neg h2] at h
    obtain rfl : fstE num den d x = y := (Prod.mk.inj h).2
    have m1 := hx.m1
    by_cases hm : 0 ≤ x.f1 ∧ 0 < x.f2
    ·have hb : ¬ (1000 < (fstE num den d x).f2 ∨ 1000 < (fstE num den d x).f3) := fun hc => h1 ⟨hm, hc⟩
     have hn1 := hx.n1
     have he0 := hx.e0
     have he1 := hx.e1
     have p1 := prod_bd 1000 1000 (show 1 ≤ x.f2 by omega) hn1 hr.n0 hr.n1
     have p2 := prod_bd 1000 1000 he0 he1 hr.d0 hr.d1
     have hl := qq_low (n := x.f2 * num) (e := x.f3 * den) (by omega) p2.1
     unfold fstE lowV at hb ⊢
     rw [if_pos hm] at hb ⊢
     simp only at hb ⊢
     exact ⟨hq, by simp only; omega, by simp only; omega, m1, hl.1, by simp only; omega, hl.2.2.1, by simp only; omega, fun hc => by simp only at hc; omega⟩
    ·unfold fstE
     rw [if_neg hm]
     exact ⟨hq, by simp only; omega, hx.m0, m1, hx.n0, hx.n1, hx.e0, hx.e1, hx.em⟩
 ·rw [if_neg h0] at h; cases h
theorem len_step (pre : List Ed) (x : Ed) (h : pre.length ≤ 1000000) : wrap64 ((pre.length : Int) + 1) = ((pre ++ [x]).length : Int) := by rw [w64 (by omega) (by omega)]; simp
theorem faster_l {ms ts num den : Int} (hc : Ck ms ts) (hr : Rt num den) (l : List Ed) (hV : ∀ x ∈ l, Vd x) (hl : l.length ≤ 1000) (rest : List Ed) :
  ∀ pre out, l = pre ++ rest → (∀ x ∈ out, Vd x) → out.length ≤ pre.length →
   Ev (fun k => edit_Faster.l0 k ms ts num den out l (l.length : Int) (pre.length : Int)) (mapE (fastV num den) (nrmV ms ts) out rest) := by
 induction rest with
 | nil =>
  intro pre out he hw ho
  simp only [List.append_nil] at he
  subst he
  refine Ev.step (fun k => by rw [edit_Faster.l0]) ?_
  exact Ev.congr (fun k => if_neg (by omega)) (Ev.bind (normal_f hc out hw (by omega)) (Ev.now _))
 | cons x t ih =>
  intro pre out he hw ho
  have hlen : l.length = pre.length + (t.length + 1) := by rw [he]; simp
  have hx : rd_T77 l (pre.length : Int) = x := by rw [he]; exact rd_at pre x t
  have hv : Vd x := hV x (by rw [he]; simp)
  have r0 := hr.n0
  have r1 := hr.n1
  have hp := prod_bd 1099511627776 1000 hv.d0 hv.d1 hr.d0 hr.d1
  have nx : ∀ y, fastV num den x = (0, y) → Ev (fun k => edit_Faster.l0 k ms ts num den (out ++ [y]) l (l.length : Int) (wrap64 ((pre.length : Int) + 1))) (mapE (fastV num den) (nrmV ms ts) out (x :: t)) := by
   intro y hy
   rw [mapE_ok hy, len_step pre x (by omega)]
   refine ih (pre ++ [x]) (out ++ [y]) (by rw [he]; simp) ?_ (by simp; omega)
   intro z hz
   rcases List.mem_append.1 hz with hz | hz
   ·exact hw z hz
   ·rw [List.mem_singleton] at hz
    rw [hz]
    exact fast_vd hr hv hy
  have hF := fastV_eq num den x
  have hw1 : wrap64 (x.f0 * den) = x.f0 * den := w64 (by omega) (by omega)
  have htm : Int.tmod (x.f0 * den) num = x.f0 * den % num := Int.tmod_eq_emod_of_nonneg (by omega)
  have htd : Int.tdiv (x.f0 * den) num = x.f0 * den / num := Int.tdiv_eq_ediv_of_nonneg (by omega)
  have hq1 : x.f0 * den / num ≤ x.f0 * den := quot_le (by omega)
  have hq0 : 0 ≤ x.f0 * den / num := Int.ediv_nonneg (by omega) (by omega)
  have hwq : wrap64 (x.f0 * den / num) = x.f0 * den / num := w64 (by omega) (by omega)
  refine Ev.step (fun k => by rw [edit_Faster.l0]) ?_
  refine Ev.congr (fun k => if_pos (by omega)) (Ev.congr (fun k => if_pos (by omega)) (Ev.congr (fun k => if_pos (by omega)) (Ev.congr (fun k => if_neg (by omega)) ?_)))
  rw [hx, hw1, htm, htd, hwq]
  generalize x.f0 * den = A at *
  by_cases h0 : A % num = 0
  ·rw [if_pos h0] at hF
   refine Ev.congr (fun k => if_pos h0) ?_
   generalize A / num = d at *
   have still : ¬ (0 ≤ x.f1 ∧ 0 < x.f2) → Ev (fun k => edit_Faster.j2 k ms ts num den out l (l.length : Int) (pre.length : Int) false d x.f1 x.f2 x.f3) (mapE (fastV num den) (nrmV ms ts) out (x :: t)) := by
    intro hm
    rw [if_neg (fun h => hm h.1)] at hF
    refine Ev.step (fun k => by rw [edit_Faster.j2]) ?_
    refine Ev.congr (fun k => if_neg (by decide)) ?_
    by_cases hb : 1099511627776 < d
    ·rw [if_pos hb] at hF
     rw [mapE_err hF (by decide)]
     exact Ev.congr (fun k => if_pos hb) (Ev.now _)
    ·rw [if_neg hb] at hF
     have hfe : fstE num den d x = ⟨d, x.f1, x.f2, x.f3⟩ := if_neg hm
     rw [hfe] at hF
     exact Ev.congr (fun k => if_neg hb) (Ev.congr (fun k => if_pos (by omega)) (nx _ hF))
   by_cases hm : 0 ≤ x.f1
   ·refine Ev.congr (fun k => if_pos hm) ?_
    by_cases hp2 : 0 < x.f2
    ·rw [decide_eq_true (show x.f2 > 0 from hp2)]
     have hn1 := hv.n1
     have p1 := prod_bd 1000 1000 (show 1 ≤ x.f2 by omega) hn1 hr.n0 hr.n1
     have p2 := prod_bd 1000 1000 hv.e0 hv.e1 hr.d0 hr.d1
     have hlo : edit_lowest.f d x.f1 (wrap64 (x.f2 * num)) (wrap64 (x.f3 * den)) = some (d, x.f1, (fstE num den d x).f2, (fstE num den d x).f3) := by
      rw [w64 (by omega) (by omega), w64 (by omega) (by omega)]
      unfold edit_lowest.f rateOk fstE lowV
      rw [if_pos (⟨hm, hp2⟩ : 0 ≤ x.f1 ∧ 0 < x.f2), decide_eq_true (show 0 ≤ x.f2 * num by omega), decide_eq_true (show x.f2 * num ≤ 1000000 by omega), decide_eq_true p2.1, decide_eq_true (show x.f3 * den ≤ 1000000 by omega)]
      rfl
     have hfe : fstE num den d x = ⟨d, x.f1, (fstE num den d x).f2, (fstE num den d x).f3⟩ := by
      unfold fstE
      rw [if_pos (⟨hm, hp2⟩ : 0 ≤ x.f1 ∧ 0 < x.f2)]
      rfl
     refine Ev.step (fun k => by rw [edit_Faster.j2]) ?_
     refine Ev.congr (fun k => if_pos rfl) ?_
     rw [hlo]
     simp only [Option.bind_some]
     generalize hy2 : (fstE num den d x).f2 = y2 at *
     generalize hy3 : (fstE num den d x).f3 = y3 at *
     have go : Ev (fun k => edit_Faster.j3 k ms ts num den out l (l.length : Int) (pre.length : Int) (decide (1000 < y2 ∨ 1000 < y3)) d x.f1 y2 y3) (mapE (fastV num den) (nrmV ms ts) out (x :: t)) := by
      refine Ev.step (fun k => by rw [edit_Faster.j3]) ?_
      by_cases hb : 1000 < y2 ∨ 1000 < y3
      ·rw [if_pos ⟨⟨hm, hp2⟩, hb⟩] at hF
       rw [mapE_err hF (by decide)]
       exact Ev.congr (fun k => if_pos (decide_eq_true hb)) (Ev.now _)
      ·rw [if_neg (fun h => hb h.2)] at hF
       refine Ev.congr (fun k => if_neg (by rw [decide_eq_false hb]; decide)) ?_
       by_cases hb2 : 1099511627776 < d
       ·rw [if_pos hb2] at hF
        rw [mapE_err hF (by decide)]
        exact Ev.congr (fun k => if_pos hb2) (Ev.now _)
       ·rw [if_neg hb2, hfe] at hF
        exact Ev.congr (fun k => if_neg hb2) (Ev.congr (fun k => if_pos (by omega)) (nx _ hF))
     by_cases hb : y2 > 1000
     ·rw [decide_eq_true (.inl hb)] at go
      exact Ev.congr (fun k => if_pos hb) go
     ·have e : decide (1000 < y2 ∨ 1000 < y3) = decide (y3 > 1000) := by
       congr 1
       apply propext
       omega
      rw [e] at go
      exact Ev.congr (fun k => if_neg hb) go
    ·rw [decide_eq_false (show ¬ x.f2 > 0 from hp2)]
     exact still (fun h => hp2 h.2)
   ·exact Ev.congr (fun k => if_neg hm) (still (fun h => hm h.1))
  ·rw [if_neg h0] at hF
   rw [mapE_err hF (by decide)]
   exact Ev.congr (fun k => if_neg h0) (Ev.now _)
theorem rfaster_l {ms ts num den : Int} (hc : Ck ms ts) (hr : Rt num den) (l : List Ed) (hV : ∀ x ∈ l, Vd x) (hl : l.length ≤ 1000) (rest : List Ed) :
  ∀ pre out, l = pre ++ rest → (∀ x ∈ out, Vd x) → out.length ≤ pre.length →
   Ev (fun k => dioramaref10_Faster.l0 k l ms ts num den out (pre.length : Int)) (mapE (fastV num den) (nrmV ms ts) out rest) := by
 induction rest with
 | nil =>
  intro pre out he hw ho
  simp only [List.append_nil] at he
  subst he
  refine Ev.step (fun k => by rw [dioramaref10_Faster.l0]) ?_
  exact Ev.congr (fun k => if_neg (by omega)) (Ev.bind (told_f hc out hw (by omega)) (Ev.now _))
 | cons x t ih =>
  intro pre out he hw ho
  have hlen : l.length = pre.length + (t.length + 1) := by rw [he]; simp
  have hx : rd_T77 l (pre.length : Int) = x := by rw [he]; exact rd_at pre x t
  have hv : Vd x := hV x (by rw [he]; simp)
  have r0 := hr.n0
  have r1 := hr.n1
  have r2 := hr.d0
  have r3 := hr.d1
  have hd0 := hv.d0
  have hd1 := hv.d1
  have hp := prod_bd 1099511627776 1000 hv.d0 hv.d1 hr.d0 hr.d1
  have nx : ∀ y, fastV num den x = (0, y) → Ev (fun k => dioramaref10_Faster.l0 k l ms ts num den (out ++ [y]) (wrap64 ((pre.length : Int) + 1))) (mapE (fastV num den) (nrmV ms ts) out (x :: t)) := by
   intro y hy
   rw [mapE_ok hy, len_step pre x (by omega)]
   refine ih (pre ++ [x]) (out ++ [y]) (by rw [he]; simp) ?_ (by simp; omega)
   intro z hz
   rcases List.mem_append.1 hz with hz | hz
   ·exact hw z hz
   ·rw [List.mem_singleton] at hz
    rw [hz]
    exact fast_vd hr hv hy
  have hF := fastV_eq num den x
  obtain ⟨b1, x1, y1, e1, v1⟩ := ratio_f x.f0 1 (by omega) (by omega) (by omega) (by omega)
  obtain ⟨b2, x2, y2, e2, v2⟩ := ratio_f den num (by omega) (by omega) (by omega) (by omega)
  obtain ⟨b3, x3, y3, e3, v3⟩ := timesR_f v1 v2 (by omega)
  have hqq : qq x.f0 1 * qq den num = qq (x.f0 * den) num := by
   unfold qq
   rw [Rat.divInt_mul_divInt, Int.one_mul]
  rw [hqq] at v3
  have hwh := whole_f v3 (by omega) (qq_nonneg (by omega) (by omega))
  rw [whV_qq (by omega)] at hwh
  refine Ev.step (fun k => by rw [dioramaref10_Faster.l0]) ?_
  refine Ev.congr (fun k => if_pos (by omega)) (Ev.congr (fun k => if_pos (by omega)) ?_)
  rw [hx]
  refine Ev.bind e1 (Ev.bind e2 (Ev.bind e3 (Ev.bind hwh ?_)))
  generalize x.f0 * den = A at *
  by_cases h0 : A % num = 0
  ·rw [if_pos h0] at hF ⊢
   generalize A / num = d at *
   have hie : ∀ a : Int, dioramaref10_isEmpty.f a x.f1 x.f2 x.f3 = some (decide (x.f1 = -1)) := by
    intro a
    unfold dioramaref10_isEmpty.f
    rfl
   have hm0 := hv.m0
   have main : ∀ D E : Int, (1099511627776 < d → E = 2) → (¬ 1099511627776 < d → D = d ∧ E = 0) → Ev (fun k => if E = 20 then (some (([] : List Ed), E)) else ((dioramaref10_isEmpty.f D x.f1 x.f2 x.f3).bind fun t480 => (if t480 = true then (dioramaref10_Faster.j2 k l ms ts num den E out (pre.length : Int) false D x.f1 x.f2 x.f3) else (dioramaref10_Faster.j2 k l ms ts num den E out (pre.length : Int) (decide (x.f2 > 0)) D x.f1 x.f2 x.f3)))) (mapE (fastV num den) (nrmV ms ts) out (x :: t)) := by
    intro D E hE1 hE2
    refine Ev.congr (fun k => if_neg (by omega)) ?_
    rw [hie]
    simp only [Option.bind_some, decide_eq_true_eq]
    have still : ¬ (0 ≤ x.f1 ∧ 0 < x.f2) → Ev (fun k => dioramaref10_Faster.j2 k l ms ts num den E out (pre.length : Int) false D x.f1 x.f2 x.f3) (mapE (fastV num den) (nrmV ms ts) out (x :: t)) := by
     intro hm
     rw [if_neg (fun h => hm h.1)] at hF
     refine Ev.step (fun k => by rw [dioramaref10_Faster.j2]) ?_
     refine Ev.congr (fun k => if_neg (by decide)) ?_
     by_cases hb : 1099511627776 < d
     ·rw [if_pos hb] at hF
      rw [mapE_err hF (by decide), hE1 hb]
      exact Ev.congr (fun k => if_neg (by decide)) (Ev.now _)
     ·obtain ⟨rfl, rfl⟩ := hE2 hb
      rw [if_neg hb] at hF
      have hfe : fstE num den D x = ⟨D, x.f1, x.f2, x.f3⟩ := if_neg hm
      rw [hfe] at hF
      exact Ev.congr (fun k => if_pos rfl) (Ev.congr (fun k => if_pos (by omega)) (nx _ hF))
    by_cases hm : x.f1 = -1
    ·exact Ev.congr (fun k => if_pos hm) (still (fun h => by omega))
    ·refine Ev.congr (fun k => if_neg hm) ?_
     by_cases hp2 : 0 < x.f2
     ·rw [decide_eq_true (show x.f2 > 0 from hp2)]
      have hn1 := hv.n1
      have p1 := prod_bd 1000 1000 (show 1 ≤ x.f2 by omega) hn1 hr.n0 hr.n1
      have p2 := prod_bd 1000 1000 hv.e0 hv.e1 hr.d0 hr.d1
      have hmm : 0 ≤ x.f1 ∧ 0 < x.f2 := ⟨by omega, hp2⟩
      have hlo : dioramaref10_lowest.f D x.f1 (wrap64 (x.f2 * num)) (wrap64 (x.f3 * den)) = some (D, x.f1, (fstE num den d x).f2, (fstE num den d x).f3) := by
       rw [w64 (by omega) (by omega), w64 (by omega) (by omega)]
       unfold dioramaref10_lowest.f rateOk fstE lowV
       rw [if_pos hmm, decide_eq_true (show 0 ≤ x.f2 * num by omega), decide_eq_true (show x.f2 * num ≤ 1000000 by omega), decide_eq_true p2.1, decide_eq_true (show x.f3 * den ≤ 1000000 by omega)]
       rfl
      have hfe : fstE num den d x = ⟨d, x.f1, (fstE num den d x).f2, (fstE num den d x).f3⟩ := by
       unfold fstE
       rw [if_pos hmm]
       rfl
      refine Ev.step (fun k => by rw [dioramaref10_Faster.j2]) ?_
      refine Ev.congr (fun k => if_pos rfl) ?_
      rw [hlo]
      simp only [Option.bind_some]
      generalize hy2 : (fstE num den d x).f2 = y2 at *
      generalize hy3 : (fstE num den d x).f3 = y3 at *
      have go : Ev (fun k => dioramaref10_Faster.j3 k l ms ts num den E out (pre.length : Int) (decide (1000 < y2 ∨ 1000 < y3)) D x.f1 y2 y3) (mapE (fastV num den) (nrmV ms ts) out (x :: t)) := by
       refine Ev.step (fun k => by rw [dioramaref10_Faster.j3]) ?_
       by_cases hb : 1000 < y2 ∨ 1000 < y3
       ·rw [if_pos ⟨hmm, hb⟩] at hF
        rw [mapE_err hF (by decide)]
        exact Ev.congr (fun k => if_pos (decide_eq_true hb)) (Ev.now _)
       ·rw [if_neg (fun h => hb h.2)] at hF
        refine Ev.congr (fun k => if_neg (by rw [decide_eq_false hb]; decide)) ?_
        by_cases hb2 : 1099511627776 < d
        ·rw [if_pos hb2] at hF
         rw [mapE_err hF (by decide), hE1 hb2]
         exact Ev.congr (fun k => if_neg (by decide)) (Ev.now _)
        ·obtain ⟨rfl, rfl⟩ := hE2 hb2
         rw [if_neg hb2, hfe] at hF
         exact Ev.congr (fun k => if_pos rfl) (Ev.congr (fun k => if_pos (by omega)) (nx _ hF))
      by_cases hb : y2 > 1000
      ·rw [decide_eq_true (.inl hb)] at go
       exact Ev.congr (fun k => if_pos hb) go
      ·have e : decide (1000 < y2 ∨ 1000 < y3) = decide (y3 > 1000) := by
        congr 1
        apply propext
        omega
       rw [e] at go
       exact Ev.congr (fun k => if_neg hb) go
     ·rw [decide_eq_false (show ¬ x.f2 > 0 from hp2)]
      exact still (fun h => hp2 h.2)
   by_cases hb : 1099511627776 < d
   ·rw [if_pos hb]
    exact main 0 2 (fun _ => rfl) (fun h => absurd hb h)
   ·rw [if_neg hb]
    exact main d 0 (fun h => absurd h hb) (fun _ => ⟨rfl, rfl⟩)
  ·rw [if_neg h0] at hF ⊢
   rw [mapE_err hF (by decide)]
   exact Ev.congr (fun k => if_pos rfl) (Ev.now _)
def fasV (ms ts num den : Int) (l : List Ed) : List Ed × Int := if chk l ms ts = 0 then (if 1 ≤ num ∧ num ≤ 1000 ∧ 1 ≤ den ∧ den ≤ 1000 then mapE (fastV num den) (nrmV ms ts) [] l else ([], 1)) else ([], chk l ms ts)
theorem Faster_f (l : List Ed) (ms ts num den : Int) : Ev (fun k => edit_Faster.f k l ms ts num den) (fasV ms ts num den l) := by
 unfold fasV
 by_cases h0 : chk l ms ts = 0
 ·obtain ⟨hc, hl, hV, hs⟩ := chk_ok.1 h0
  rw [if_pos h0]
  have h1 := check_f l ms ts
  rw [h0] at h1
  refine Ev.congr (fun k => rfl) (Ev.bind h1 (Ev.congr (fun k => if_pos rfl) ?_))
  have bad : ¬ (1 ≤ num ∧ num ≤ 1000 ∧ 1 ≤ den ∧ den ≤ 1000) → Ev (fun k => edit_Faster.j0 k l ms ts num den true) (if 1 ≤ num ∧ num ≤ 1000 ∧ 1 ≤ den ∧ den ≤ 1000 then mapE (fastV num den) (nrmV ms ts) [] l else ([], 1)) := by
   intro h
   rw [if_neg h]
   exact Ev.step (fun k => by rw [edit_Faster.j0]) (Ev.congr (fun k => if_pos rfl) (Ev.now _))
  by_cases h1 : num < 1
  ·exact Ev.congr (fun k => if_pos h1) (bad (by omega))
  refine Ev.congr (fun k => if_neg h1) ?_
  by_cases h2 : num > 1000
  ·exact Ev.congr (fun k => if_pos h2) (bad (by omega))
  refine Ev.congr (fun k => if_neg h2) ?_
  by_cases h3 : den < 1
  ·exact Ev.congr (fun k => if_pos h3) (bad (by omega))
  refine Ev.congr (fun k => if_neg h3) ?_
  by_cases h4 : den > 1000
  ·rw [decide_eq_true h4]
   exact bad (by omega)
  ·rw [decide_eq_false h4, if_pos (by omega)]
   refine Ev.step (fun k => by rw [edit_Faster.j0]) (Ev.congr (fun k => if_neg (by decide)) ?_)
   exact faster_l hc ⟨by omega, by omega, by omega, by omega⟩ l hV (by omega) l [] [] rfl (by simp) (by simp)
 ·rw [if_neg h0]
  refine Ev.congr (fun k => rfl) (Ev.bind (check_f l ms ts) ?_)
  refine Ev.congr (fun k => if_neg h0) (Ev.now _)
theorem rFaster_f (l : List Ed) (ms ts num den : Int) : Ev (fun k => dioramaref10_Faster.f k l ms ts num den) (fasV ms ts num den l) := by
 unfold fasV
 by_cases h0 : chk l ms ts = 0
 ·obtain ⟨hc, hl, hV, hs⟩ := chk_ok.1 h0
  rw [if_pos h0]
  have h1 := rcheck_f l ms ts
  rw [h0] at h1
  refine Ev.congr (fun k => rfl) (Ev.bind h1 (Ev.congr (fun k => if_pos rfl) ?_))
  have bad : ¬ (1 ≤ num ∧ num ≤ 1000 ∧ 1 ≤ den ∧ den ≤ 1000) → Ev (fun k => dioramaref10_Faster.j0 k l ms ts num den true) (if 1 ≤ num ∧ num ≤ 1000 ∧ 1 ≤ den ∧ den ≤ 1000 then mapE (fastV num den) (nrmV ms ts) [] l else ([], 1)) := by
   intro h
   rw [if_neg h]
   exact Ev.step (fun k => by rw [dioramaref10_Faster.j0]) (Ev.congr (fun k => if_pos rfl) (Ev.now _))
  by_cases h1 : num < 1
  ·exact Ev.congr (fun k => if_pos h1) (bad (by omega))
  refine Ev.congr (fun k => if_neg h1) ?_
  by_cases h2 : num > 1000
  ·exact Ev.congr (fun k => if_pos h2) (bad (by omega))
  refine Ev.congr (fun k => if_neg h2) ?_
  by_cases h3 : den < 1
  ·exact Ev.congr (fun k => if_pos h3) (bad (by omega))
  refine Ev.congr (fun k => if_neg h3) ?_
  by_cases h4 : den > 1000
  ·rw [decide_eq_true h4]
   exact bad (by omega)
  ·rw [decide_eq_false h4, if_pos (by omega)]
   refine Ev.step (fun k => by rw [dioramaref10_Faster.j0]) (Ev.congr (fun k => if_neg (by decide)) ?_)
   exact rfaster_l hc ⟨by omega, by omega, by omega, by omega⟩ l hV (by omega) l [] [] rfl (by simp) (by simp)
 ·rw [if_neg h0]
  refine Ev.congr (fun k => rfl) (Ev.bind (rcheck_f l ms ts) ?_)
  refine Ev.congr (fun k => if_neg h0) (Ev.now _)
theorem nrmV_len (ms ts : Int) (l : List Ed) : (nrmV ms ts l).1.length ≤ 20 := by
 unfold nrmV fin
 split
 ·simp
 ·split
  ·simp
  ·simp only [List.length_reverse]; omega
theorem mapE_len (f : Ed → Int × Ed) (fin : List Ed → List Ed × Int) (hf : ∀ l, (fin l).1.length ≤ 20) (l : List Ed) : ∀ out, (mapE f fin out l).1.length ≤ 20 := by
 induction l with
 | nil => intro out; exact hf out
 | cons x t ih =>
  intro out
  simp only [mapE]
  split
  ·exact ih _
  ·simp
theorem fasV_len (ms ts num den : Int) (l : List Ed) : (fasV ms ts num den l).1.length ≤ 20 := by
 unfold fasV
 split
 ·split
  ·exact mapE_len _ _ (nrmV_len ms ts) l []
  ·simp
 ·simp
theorem pure_f (l : List Ed) (ms ts num den : Int) : Ev (fun k => dioramalaw10_EditFaster.f k l ms ts num den) true := by
 have hf : ∀ k, dioramalaw10_EditFaster.f k l ms ts num den = (some (decide (60 < l.length))).bind fun t => (if t = true then ((dioramalaw10_awake.f k).bind fun t => (some t)) else ((edit_Faster.f k l ms ts num den).bind fun b1 => ((dioramaref10_Faster.f k l ms ts num den).bind fun b2 => ((dioramalaw10_eq.f k b1.1 b1.2 b2.1 b2.2).bind fun t => (if t = true then ((dioramalaw10_awake.f k).bind fun t => (some t)) else (some false)))))) := by
  intro k
  unfold dioramalaw10_EditFaster.f
  rw [many_f]
 refine Ev.congr hf ?_
 simp only [Option.bind_some, decide_eq_true_eq]
 by_cases h1 : 60 < l.length
 ·exact Ev.congr (fun k => if_pos h1) (Ev.bind awake_f (Ev.now _))
 ·refine Ev.congr (fun k => if_neg h1) (Ev.bind (Faster_f l ms ts num den) (Ev.bind (rFaster_f l ms ts num den) (Ev.bind (eq_f _ _ (by have := fasV_len ms ts num den l; omega)) ?_)))
  exact Ev.congr (fun k => if_pos rfl) (Ev.bind awake_f (Ev.now _))
theorem walk (a : Option Addr) (n c : Nat) (l : List Ed) (ms ts num den : Int) (w : World) (h : Eds w a n c l) (_ : (Lit.int .i64 ms).wf = true) (_ : (Lit.int .i64 ts).wf = true) (_ : (Lit.int .i64 num).wf = true) (_ : (Lit.int .i64 den).wf = true) :
  Calls Try.prog 4 #[.agg #[.slice a n c, .int .i64 ms, .int .i64 ts], .int .i64 num, .int .i64 den] w (fun e w' => e = .returned (.bool true) ∧ Below w.heap.size w w') := by
 obtain ⟨k, hk⟩ := (pure_f l ms ts num den).rounds
 rw [← h.n]
 exact dioramalaw10_EditFaster.calls k a c l ms ts num den true w h.c h.h hk
end Go.Proofs.Ytpbhepdgamoiaaa.Fr
namespace Go.Proofs.Ytpbhepdgamoiaaa.Cl
open Go.RowKit Go Go.Proofs.YtpbhepdgamoiaaaW.PrintWords Go.Proofs.YtpbhepdgamoiaaaW.PrintLast Go.Proofs.YtpbhepdgamoiaaaW.PrintMore Go.Proofs.Ytpbhepdgamoiaaa.Mn Go.Proofs.Ytpbhepdgamoiaaa.Rf Go.Proofs.Ytpbhepdgamoiaaa.Er Go.Proofs.Ytpbhepdgamoiaaa.Ek Go.Proofs.Ytpbhepdgamoiaaa.Ew Go.Proofs.Ytpbhepdgamoiaaa.E Go.Proofs.Ytpbhepdgamoiaaa.Pe Go.Proofs.Ytpbhepdgamoiaaa.Pf Go.Proofs.Ytpbhepdgamoiaaa.Pg Go.Proofs.Ytpbhepdgamoiaaa.Qr Go.Proofs.Ytpbhepdgamoiaaa.Qn Go.Proofs.Ytpbhepdgamoiaaa.Qo Go.Proofs.Ytpbhepdgamoiaaa.Qp Go.Proofs.Ytpbhepdgamoiaaa.Qe Go.Proofs.Ytpbhepdgamoiaaa.Qw Go.Proofs.Ytpbhepdgamoiaaa.Oe Go.Proofs.Ytpbhepdgamoiaaa.Fr
set_option linter.unusedVariables false
set_option linter.unusedSimpArgs false
def scB (a : Int) : Bool := decide (1 ≤ a) && decide (a ≤ 1000000)
theorem scale_f (a : Int) : edit_isScale.f a = some (scB a) := by
 unfold edit_isScale.f scB
 by_cases h : a ≥ 1
 ·rw [if_pos h, decide_eq_true (show 1 ≤ a from h), Bool.true_and]
 ·rw [if_neg h, decide_eq_false (show ¬ 1 ≤ a from h), Bool.false_and]
theorem rscale_f (a : Int) : dioramaref10_isScale.f a = some (scB a) := scale_f a
def tailV (D M : Int × Int) (x : Ed) : Int × Ed := if D.2 = 20 ∨ M.2 = 20 then (20, x) else if D.2 = 0 ∧ M.2 = 0 then (0, ⟨D.1, M.1, x.f2, x.f3⟩) else (2, x)
def medW (nts ts : Int) (x : Ed) : Int × Int := if 0 ≤ x.f1 then whV (qq (x.f1 * nts) ts) else (x.f1, 0)
def clkV (ms ts nms nts : Int) (x : Ed) : Int × Ed := tailV (whV (qq (x.f0 * nms) ms)) (medW nts ts x) x
theorem whV_rng {a b : Int} (ha : 0 ≤ a) (hb : 0 < b) (h : (whV (qq a b)).2 = 0) : 0 ≤ (whV (qq a b)).1 ∧ (whV (qq a b)).1 ≤ 1099511627776 ∧ (1 ≤ a → 1 ≤ (whV (qq a b)).1) := by
 rw [whV_qq hb] at h ⊢
 by_cases h0 : a % b = 0
 ·rw [if_pos h0] at h ⊢
  by_cases h1 : 1099511627776 < a / b
  ·rw [if_pos h1] at h; cases h
  ·rw [if_neg h1]
   have := Int.ediv_nonneg ha (show 0 ≤ b by omega)
   exact ⟨this, by simp only; omega, fun h => quot_pos h (by omega) h0⟩
 ·rw [if_neg h0] at h; cases h
theorem clk_vd {ms ts nms nts : Int} (hc : Ck ms ts) (hn : Ck nms nts) {x y : Ed} (hx : Vd x) (h : clkV ms ts nms nts x = (0, y)) : Vd y := by
 unfold clkV tailV at h
 have n0 := hn.m0
 have n2 := hn.t0
 have c0 := hc.m0
 have c2 := hc.t0
 by_cases h1 : (whV (qq (x.f0 * nms) ms)).2 = 20 ∨ (medW nts ts x).2 = 20
 ·rw [if_pos h1] at h; cases h
 rw [if_neg h1] at h
 by_cases h2 : (whV (qq (x.f0 * nms) ms)).2 = 0 ∧ (medW nts ts x).2 = 0
 ·rw [if_pos h2] at h
  obtain rfl := (Prod.mk.inj h).2
  have hd := Int.mul_pos (show 0 < x.f0 by have := hx.d0; omega) (show 0 < nms by omega)
  have r1 := whV_rng (by omega) (by omega) h2.1
  by_cases hm : 0 ≤ x.f1
  ·have h3 := h2.2
   unfold medW at h3 ⊢
   rw [if_pos hm] at h3 ⊢
   have r2 := whV_rng (Int.mul_nonneg hm (by omega)) (by omega) h3
   exact ⟨r1.2.2 (by omega), r1.2.1, by simp only; omega, r2.2.1, hx.n0, hx.n1, hx.e0, hx.e1, fun h => by simp only at h; omega⟩
  ·unfold medW
   rw [if_neg hm]
   exact ⟨r1.2.2 (by omega), r1.2.1, hx.m0, hx.m1, hx.n0, hx.n1, hx.e0, hx.e1, hx.em⟩
 ·rw [if_neg h2] at h; cases h
theorem qq_pw (a b c : Int) : qq a b * qq c 1 = qq (a * c) b := by
 unfold qq
 rw [Rat.divInt_mul_divInt, Int.mul_one]
theorem qq_rw (a b c : Int) : qq a 1 * qq c b = qq (a * c) b := by
 unfold qq
 rw [Rat.divInt_mul_divInt, Int.one_mul]
theorem pwhole_f {x n m : Int} (h0 : 0 ≤ x) (h1 : x ≤ 1099511627776) (h2 : 1 ≤ n) (h3 : n ≤ 1000000) (h4 : 1 ≤ m) (h5 : m ≤ 1000000) : edit_whole.f x n m = some (whV (qq (x * n) m)) := by
 unfold edit_whole.f whOk
 rw [decide_eq_true h0, decide_eq_true h1, decide_eq_true h2, decide_eq_true h3, decide_eq_true h4, decide_eq_true h5, qq_pw]
 rfl
theorem clock_l {ms ts nms nts : Int} (hc : Ck ms ts) (hn : Ck nms nts) (l : List Ed) (hV : ∀ x ∈ l, Vd x) (hl : l.length ≤ 1000) (rest : List Ed) :
  ∀ pre out, l = pre ++ rest → (∀ x ∈ out, Vd x) → out.length ≤ pre.length →
   Ev (fun k => edit_Clock.l0 k ms ts nms nts out l (l.length : Int) (pre.length : Int)) (mapE (clkV ms ts nms nts) (nrmV nms nts) out rest) := by
 induction rest with
 | nil =>
  intro pre out he hw ho
  simp only [List.append_nil] at he
  subst he
  refine Ev.step (fun k => by rw [edit_Clock.l0]) ?_
  exact Ev.congr (fun k => if_neg (by omega)) (Ev.bind (normal_f hn out hw (by omega)) (Ev.now _))
 | cons x t ih =>
  intro pre out he hw ho
  have hlen : l.length = pre.length + (t.length + 1) := by rw [he]; simp
  have hx : rd_T77 l (pre.length : Int) = x := by rw [he]; exact rd_at pre x t
  have hv : Vd x := hV x (by rw [he]; simp)
  have nx : ∀ y, clkV ms ts nms nts x = (0, y) → Ev (fun k => edit_Clock.l0 k ms ts nms nts (out ++ [y]) l (l.length : Int) (wrap64 ((pre.length : Int) + 1))) (mapE (clkV ms ts nms nts) (nrmV nms nts) out (x :: t)) := by
   intro y hy
   rw [mapE_ok hy, len_step pre x (by omega)]
   refine ih (pre ++ [x]) (out ++ [y]) (by rw [he]; simp) ?_ (by simp; omega)
   intro z hz
   rcases List.mem_append.1 hz with hz | hz
   ·exact hw z hz
   ·rw [List.mem_singleton] at hz
    rw [hz]
    exact clk_vd hc hn hv hy
  have go : ∀ D M : Int × Int, clkV ms ts nms nts x = tailV D M x → Ev (fun k => edit_Clock.j2 k ms ts nms nts out D.1 D.2 M.1 M.2 l (l.length : Int) (pre.length : Int) x.f0 x.f1 x.f2 x.f3) (mapE (clkV ms ts nms nts) (nrmV nms nts) out (x :: t)) := by
   intro D M hF
   unfold tailV at hF
   have g2 : ∀ B : Bool, (B = true ↔ D.2 = 20 ∨ M.2 = 20) → Ev (fun k => edit_Clock.j3 k ms ts nms nts out D.1 D.2 M.1 M.2 l (l.length : Int) (pre.length : Int) B x.f0 x.f1 x.f2 x.f3) (mapE (clkV ms ts nms nts) (nrmV nms nts) out (x :: t)) := by
    intro B hB
    refine Ev.step (fun k => by rw [edit_Clock.j3]) ?_
    by_cases h1 : D.2 = 20 ∨ M.2 = 20
    ·rw [if_pos h1] at hF
     rw [mapE_err hF (by decide)]
     exact Ev.congr (fun k => if_pos (hB.2 h1)) (Ev.now _)
    ·rw [if_neg h1] at hF
     refine Ev.congr (fun k => if_neg (fun h => h1 (hB.1 h))) ?_
     by_cases h2 : D.2 = 0
     ·refine Ev.congr (fun k => if_pos h2) ?_
      by_cases h3 : M.2 = 0
      ·rw [if_pos ⟨h2, h3⟩] at hF
       exact Ev.congr (fun k => if_pos h3) (Ev.congr (fun k => if_pos (by omega)) (nx _ hF))
      ·rw [if_neg (fun h => h3 h.2)] at hF
       rw [mapE_err hF (by decide)]
       exact Ev.congr (fun k => if_neg h3) (Ev.now _)
     ·rw [if_neg (fun h => h2 h.1)] at hF
      rw [mapE_err hF (by decide)]
      exact Ev.congr (fun k => if_neg h2) (Ev.now _)
   refine Ev.step (fun k => by rw [edit_Clock.j2]) ?_
   by_cases h1 : D.2 = 20
   ·exact Ev.congr (fun k => if_pos h1) (g2 true ⟨fun _ => .inl h1, fun _ => rfl⟩)
   ·exact Ev.congr (fun k => if_neg h1) (g2 (M.2 == 20) ⟨fun h => .inr (beq_iff_eq.1 h), fun h => beq_iff_eq.2 (h.resolve_left h1)⟩)
  refine Ev.step (fun k => by rw [edit_Clock.l0]) ?_
  refine Ev.congr (fun k => if_pos (by omega)) (Ev.congr (fun k => if_pos (by omega)) (Ev.congr (fun k => if_pos (by omega)) ?_))
  rw [hx, pwhole_f (by have := hv.d0; omega) hv.d1 hn.m0 hn.m1 hc.m0 hc.m1]
  simp only [Option.bind_some]
  by_cases hm : 0 ≤ x.f1
  ·refine Ev.congr (fun k => if_pos hm) ?_
   rw [pwhole_f hm hv.m1 hn.t0 hn.t1 hc.t0 hc.t1]
   simp only [Option.bind_some]
   have hM : medW nts ts x = whV (qq (x.f1 * nts) ts) := if_pos hm
   exact go _ _ (by unfold clkV; rw [hM])
  ·refine Ev.congr (fun k => if_neg hm) ?_
   have hM : medW nts ts x = (x.f1, 0) := if_neg hm
   exact go _ (x.f1, 0) (by unfold clkV; rw [hM])
theorem rwhole_f {n m : Int} (x : Int) (h0 : 0 ≤ x) (h1 : x ≤ 1099511627776) (h2 : 1 ≤ n) (h3 : n ≤ 1000000) (h4 : 1 ≤ m) (h5 : m ≤ 1000000) {α : Type} {g : Nat → (Int × Int) → Option α} {r : α} (hg : Ev (fun k => g k (whV (qq (x * n) m))) r) :
  Ev (fun k => (dioramaref10_ratio.f k x 1).bind fun b1 => ((dioramaref10_ratio.f k n m).bind fun b2 => ((dioramaref10_times.f k b1.1 b1.2.1 b1.2.2 b2.1 b2.2.1 b2.2.2).bind fun b3 => ((dioramaref10_whole.f k b3.1 b3.2.1 b3.2.2).bind fun b4 => g k b4)))) r := by
 obtain ⟨b1, x1, y1, e1, v1⟩ := ratio_f x 1 (by omega) (by omega) (by omega) (by omega)
 obtain ⟨b2, x2, y2, e2, v2⟩ := ratio_f n m (by omega) (by omega) (by omega) (by omega)
 obtain ⟨b3, x3, y3, e3, v3⟩ := timesR_f v1 v2 (by omega)
 rw [qq_rw] at v3
 have hwh := whole_f v3 (by omega) (qq_nonneg (Int.mul_nonneg h0 (by omega)) (by omega))
 exact Ev.bind e1 (Ev.bind e2 (Ev.bind e3 (Ev.bind hwh hg)))
theorem rclock_l {ms ts nms nts : Int} (hc : Ck ms ts) (hn : Ck nms nts) (l : List Ed) (hV : ∀ x ∈ l, Vd x) (hl : l.length ≤ 1000) (rest : List Ed) :
  ∀ pre out, l = pre ++ rest → (∀ x ∈ out, Vd x) → out.length ≤ pre.length →
   Ev (fun k => dioramaref10_Clock.l0 k l ms ts nms nts out (pre.length : Int)) (mapE (clkV ms ts nms nts) (nrmV nms nts) out rest) := by
 induction rest with
 | nil =>
  intro pre out he hw ho
  simp only [List.append_nil] at he
  subst he
  refine Ev.step (fun k => by rw [dioramaref10_Clock.l0]) ?_
  exact Ev.congr (fun k => if_neg (by omega)) (Ev.bind (told_f hn out hw (by omega)) (Ev.now _))
 | cons x t ih =>
  intro pre out he hw ho
  have hlen : l.length = pre.length + (t.length + 1) := by rw [he]; simp
  have hx : rd_T77 l (pre.length : Int) = x := by rw [he]; exact rd_at pre x t
  have hv : Vd x := hV x (by rw [he]; simp)
  have nx : ∀ y, clkV ms ts nms nts x = (0, y) → Ev (fun k => dioramaref10_Clock.l0 k l ms ts nms nts (out ++ [y]) (wrap64 ((pre.length : Int) + 1))) (mapE (clkV ms ts nms nts) (nrmV nms nts) out (x :: t)) := by
   intro y hy
   rw [mapE_ok hy, len_step pre x (by omega)]
   refine ih (pre ++ [x]) (out ++ [y]) (by rw [he]; simp) ?_ (by simp; omega)
   intro z hz
   rcases List.mem_append.1 hz with hz | hz
   ·exact hw z hz
   ·rw [List.mem_singleton] at hz
    rw [hz]
    exact clk_vd hc hn hv hy
  have go : ∀ D M : Int × Int, clkV ms ts nms nts x = tailV D M x → ∀ d m : Int, Ev (fun k => dioramaref10_Clock.j2 k l ms ts nms nts out (pre.length : Int) D.1 D.2 M.2 d M.1 x.f2 x.f3) (mapE (clkV ms ts nms nts) (nrmV nms nts) out (x :: t)) := by
   intro D M hF d m
   unfold tailV at hF
   have g2 : ∀ B : Bool, (B = true ↔ D.2 = 20 ∨ M.2 = 20) → Ev (fun k => dioramaref10_Clock.j3 k l ms ts nms nts out (pre.length : Int) D.2 M.2 B D.1 M.1 x.f2 x.f3) (mapE (clkV ms ts nms nts) (nrmV nms nts) out (x :: t)) := by
    intro B hB
    refine Ev.step (fun k => by rw [dioramaref10_Clock.j3]) ?_
    by_cases h1 : D.2 = 20 ∨ M.2 = 20
    ·rw [if_pos h1] at hF
     rw [mapE_err hF (by decide)]
     exact Ev.congr (fun k => if_pos (hB.2 h1)) (Ev.now _)
    ·rw [if_neg h1] at hF
     refine Ev.congr (fun k => if_neg (fun h => h1 (hB.1 h))) ?_
     by_cases h2 : D.2 = 0
     ·refine Ev.congr (fun k => if_pos h2) ?_
      by_cases h3 : M.2 = 0
      ·rw [if_pos ⟨h2, h3⟩] at hF
       exact Ev.congr (fun k => if_pos h3) (Ev.congr (fun k => if_pos (by omega)) (nx _ hF))
      ·rw [if_neg (fun h => h3 h.2)] at hF
       rw [mapE_err hF (by decide)]
       exact Ev.congr (fun k => if_neg h3) (Ev.now _)
     ·rw [if_neg (fun h => h2 h.1)] at hF
      rw [mapE_err hF (by decide)]
      exact Ev.congr (fun k => if_neg h2) (Ev.now _)
   refine Ev.step (fun k => by rw [dioramaref10_Clock.j2]) ?_
   by_cases h1 : D.2 = 20
   ·exact Ev.congr (fun k => if_pos h1) (g2 true ⟨fun _ => .inl h1, fun _ => rfl⟩)
   ·exact Ev.congr (fun k => if_neg h1) (g2 (M.2 == 20) ⟨fun h => .inr (beq_iff_eq.1 h), fun h => beq_iff_eq.2 (h.resolve_left h1)⟩)
  have hie : dioramaref10_isEmpty.f x.f0 x.f1 x.f2 x.f3 = some (x.f1 == -1) := rfl
  refine Ev.step (fun k => by rw [dioramaref10_Clock.l0]) ?_
  refine Ev.congr (fun k => if_pos (by omega)) (Ev.congr (fun k => if_pos (by omega)) ?_)
  rw [hx, hie]
  refine rwhole_f x.f0 (by have := hv.d0; omega) hv.d1 hn.m0 hn.m1 hc.m0 hc.m1 ?_
  simp only [Option.bind_some]
  have hm0 := hv.m0
  by_cases hm : x.f1 = -1
  ·refine Ev.congr (fun k => if_pos (beq_iff_eq.2 hm)) ?_
   have hM : medW nts ts x = (x.f1, 0) := if_neg (by omega)
   exact go _ (x.f1, 0) (by unfold clkV; rw [hM]) _ 0
  ·refine Ev.congr (fun k => if_neg (fun h => hm (beq_iff_eq.1 h))) ?_
   have hM : medW nts ts x = whV (qq (x.f1 * nts) ts) := if_pos (by omega)
   exact rwhole_f x.f1 (by omega) hv.m1 hn.t0 hn.t1 hc.t0 hc.t1 (go _ _ (by unfold clkV; rw [hM]) _ 0)
def cloV (ms ts nms nts : Int) (l : List Ed) : List Ed × Int := if chk l ms ts = 0 then (if scB nms = true ∧ scB nts = true then mapE (clkV ms ts nms nts) (nrmV nms nts) [] l else ([], 1)) else ([], chk l ms ts)
theorem scB_ck {a b : Int} (h : scB a = true ∧ scB b = true) : Ck a b := by
 unfold scB at h
 simp only [Bool.and_eq_true, decide_eq_true_eq] at h
 exact ⟨h.1.1, h.1.2, h.2.1, h.2.2⟩
theorem Clock_f (l : List Ed) (ms ts nms nts : Int) : Ev (fun k => edit_Clock.f k l ms ts nms nts) (cloV ms ts nms nts l) := by
 unfold cloV
 by_cases h0 : chk l ms ts = 0
 ·obtain ⟨hc, hl, hV, hs⟩ := chk_ok.1 h0
  rw [if_pos h0]
  have h1 := check_f l ms ts
  rw [h0] at h1
  refine Ev.congr (fun k => rfl) (Ev.bind h1 (Ev.congr (fun k => if_pos rfl) ?_))
  rw [scale_f, scale_f]
  simp only [Option.bind_some]
  by_cases h2 : scB nms = true
  ·refine Ev.congr (fun k => if_pos h2) ?_
   by_cases h3 : scB nts = true
   ·rw [if_pos ⟨h2, h3⟩, h3]
    refine Ev.step (fun k => by rw [edit_Clock.j0]) (Ev.congr (fun k => if_neg (by decide)) ?_)
    exact clock_l hc (scB_ck ⟨h2, h3⟩) l hV (by omega) l [] [] rfl (by simp) (by simp)
   ·rw [if_neg (fun h => h3 h.2), show scB nts = false from by simpa using h3]
    exact Ev.step (fun k => by rw [edit_Clock.j0]) (Ev.congr (fun k => if_pos (show (!false) = true from rfl)) (Ev.now _))
  ·rw [if_neg (fun h => h2 h.1)]
   refine Ev.congr (fun k => if_neg h2) ?_
   exact Ev.step (fun k => by rw [edit_Clock.j0]) (Ev.congr (fun k => if_pos rfl) (Ev.now _))
 ·rw [if_neg h0]
  refine Ev.congr (fun k => rfl) (Ev.bind (check_f l ms ts) ?_)
  refine Ev.congr (fun k => if_neg h0) (Ev.now _)
theorem rClock_f (l : List Ed) (ms ts nms nts : Int) : Ev (fun k => dioramaref10_Clock.f k l ms ts nms nts) (cloV ms ts nms nts l) := by
 unfold cloV
 by_cases h0 : chk l ms ts = 0
 ·obtain ⟨hc, hl, hV, hs⟩ := chk_ok.1 h0
  rw [if_pos h0]
  have h1 := rcheck_f l ms ts
  rw [h0] at h1
  refine Ev.congr (fun k => rfl) (Ev.bind h1 (Ev.congr (fun k => if_pos rfl) ?_))
  rw [rscale_f, rscale_f]
  simp only [Option.bind_some]
  by_cases h2 : scB nms = true
  ·refine Ev.congr (fun k => if_pos h2) ?_
   by_cases h3 : scB nts = true
   ·rw [if_pos ⟨h2, h3⟩, h3]
    refine Ev.step (fun k => by rw [dioramaref10_Clock.j0]) (Ev.congr (fun k => if_neg (by decide)) ?_)
    exact rclock_l hc (scB_ck ⟨h2, h3⟩) l hV (by omega) l [] [] rfl (by simp) (by simp)
   ·rw [if_neg (fun h => h3 h.2), show scB nts = false from by simpa using h3]
    exact Ev.step (fun k => by rw [dioramaref10_Clock.j0]) (Ev.congr (fun k => if_pos (show (!false) = true from rfl)) (Ev.now _))
  ·rw [if_neg (fun h => h2 h.1)]
   refine Ev.congr (fun k => if_neg h2) ?_
   exact Ev.step (fun k => by rw [dioramaref10_Clock.j0]) (Ev.congr (fun k => if_pos rfl) (Ev.now _))
 ·rw [if_neg h0]
  refine Ev.congr (fun k => rfl) (Ev.bind (rcheck_f l ms ts) ?_)
  refine Ev.congr (fun k => if_neg h0) (Ev.now _)
theorem cloV_len (ms ts nms nts : Int) (l : List Ed) : (cloV ms ts nms nts l).1.length ≤ 20 := by
 unfold cloV
 split
 ·split
  ·exact mapE_len _ _ (nrmV_len nms nts) l []
  ·simp
 ·simp
theorem pure_f (l : List Ed) (ms ts nms nts : Int) : Ev (fun k => dioramalaw10_EditClocks.f k l ms ts nms nts) true := by
 have hf : ∀ k, dioramalaw10_EditClocks.f k l ms ts nms nts = (some (decide (60 < l.length))).bind fun t => (if t = true then ((dioramalaw10_awake.f k).bind fun t => (some t)) else ((edit_Clock.f k l ms ts nms nts).bind fun b1 => ((dioramaref10_Clock.f k l ms ts nms nts).bind fun b2 => ((dioramalaw10_eq.f k b1.1 b1.2 b2.1 b2.2).bind fun t => (if t = true then ((dioramalaw10_awake.f k).bind fun t => (some t)) else (some false)))))) := by
  intro k
  unfold dioramalaw10_EditClocks.f
  rw [many_f]
 refine Ev.congr hf ?_
 simp only [Option.bind_some, decide_eq_true_eq]
 by_cases h1 : 60 < l.length
 ·exact Ev.congr (fun k => if_pos h1) (Ev.bind awake_f (Ev.now _))
 ·refine Ev.congr (fun k => if_neg h1) (Ev.bind (Clock_f l ms ts nms nts) (Ev.bind (rClock_f l ms ts nms nts) (Ev.bind (eq_f _ _ (by have := cloV_len ms ts nms nts l; omega)) ?_)))
  exact Ev.congr (fun k => if_pos rfl) (Ev.bind awake_f (Ev.now _))
theorem walk (a : Option Addr) (n c : Nat) (l : List Ed) (ms ts nms nts : Int) (w : World) (h : Eds w a n c l) (_ : (Lit.int .i64 ms).wf = true) (_ : (Lit.int .i64 ts).wf = true) (_ : (Lit.int .i64 nms).wf = true) (_ : (Lit.int .i64 nts).wf = true) :
  Calls Try.prog 5 #[.agg #[.slice a n c, .int .i64 ms, .int .i64 ts], .int .i64 nms, .int .i64 nts] w (fun e w' => e = .returned (.bool true) ∧ Below w.heap.size w w') := by
 obtain ⟨k, hk⟩ := (pure_f l ms ts nms nts).rounds
 rw [← h.n]
 exact dioramalaw10_EditClocks.calls k a c l ms ts nms nts true w h.c h.h hk
end Go.Proofs.Ytpbhepdgamoiaaa.Cl
namespace Go.Proofs.Ytpbhepdgamoiaaa.editClocksRow
open Go.ChangeShapes Go.WideShapes Go.ChangeAt Go.RowKit Go.Proofs.Ytpbhepdgamoiaaa.Oe
set_option linter.unusedVariables false
set_option maxRecDepth 100000 in
theorem lifted (os : Os) (started : os.Started) (H : Type) (enc : TypeId × Value → H) :
  ReturnsInHanded {} Try.checked os 5 .any (Rows.editClocksSpec.pre6 enc Try.prog Try.f5 Rows.editClocksRow.domain false) (Rows.editClocksSpec.post enc Try.prog Try.f5 false true false false) := by
 refine returnsInHanded_of_change_sized (C := Try.checked) own started (by kernel_rfl) Try.func5
  (ChangeSpec.witness6 (enc := enc) (C := Try.checked) false ⟨#[], #[.agg #[.slice none 0 0, .int .i64 0, .int .i64 0], .int .i64 0, .int .i64 0], []⟩ 8 (by kernel_rfl) (by kernel_rfl) (by kernel_rfl) (by kernel_rfl)) ?_
 intro W base args ds gs before hval0 hW hcnd hsz0 _
 have hval : ∀ (j : Nat) t v, Try.f5.params[j]? = some t → args[j]? = some v → Value.okWide Try.prog W .any base t v := hval0
 have hW' := hW
 obtain ⟨p, q, hA0, hV, rfl, hfz, hnd⟩ := hW
 have hA : DataW.TrodAll enc Try.prog W 0 (fun _ => true) true Try.f5.params.toList args.toList ds p := hA0
 rw [Try.params5] at hA hval
 obtain ⟨v0, vs0, d0, ds0, p0, q0, hargs, rfl, rfl, h0, r0⟩ := trodAll_cons hA
 obtain ⟨v1, vs1, d1, ds1, p1, q1, rfl, rfl, rfl, h1, r1⟩ := trodAll_cons r0
 obtain ⟨v2, vs2, d2, ds2, p2, q2, rfl, rfl, rfl, h2, r2⟩ := trodAll_cons r1
 obtain ⟨rfl, rfl, rfl⟩ := trodAll_nil r2
 obtain rfl : args = #[v0, v1, v2] := by cases args; simp_all
 obtain ⟨rfl, rfl⟩ := trodVars_none hV
 have k0 := h0
 have lt0 : ∀ x ∈ p0, x.block < W.heap.size := by obtain ⟨m, hm⟩ := k0; exact DataW.trod_lt m _ _ _ hm
 obtain ⟨a0, len0, cap0, z0, m0, t0, rfl, w0, wm0, wt0⟩ := open_list (hval 0 24 v0 rfl rfl) h0
 obtain ⟨a1, rfl, rfl, rfl, w1⟩ := open_int Try.underlying3 (hval 1 3 v1 rfl rfl) h1
 obtain ⟨a2, rfl, rfl, rfl, w2⟩ := open_int Try.underlying3 (hval 2 3 v2 rfl rfl) h2
 clear hA0 hval0 hsz0
 refine (Cl.walk a0 len0 cap0 z0 m0 t0 a1 a2 W w0 wm0 wt0 w1 w2).mono fun e W' ⟨he, bel⟩ => ?_
 subst he
 exact ⟨_, rfl, _, _, _, [], _, [], hW', trodAll_mk1 (shut_bool Try.underlying4 _), (trodAll_cons_mk (Below.trod laidOut (by kernel_rfl) (of_decide_eq_true (by kernel_rfl)) k0 bel lt0) (trodAll_cons_mk (shut_int Try.underlying3 w1) (trodAll_cons_mk (shut_int Try.underlying3 w2) trodAll_mk0))), rfl, bel.frame _, fun h => by cases h⟩
theorem over : Rows.editClocksRow.holds Try.pinned (OpenSpec.ofChange Rows.editClocksSpec) :=
 OpenClaim.holds_of_wide 5 Try.f5 rfl rfl rfl rfl rfl rfl rfl ⟨rfl, rfl, rfl, rfl, rfl⟩ rfl rfl rfl rfl rfl (by kernel_rfl) Try.func5 (by kernel_rfl)
  (of_decide_eq_true (by kernel_rfl)) (by unfold Func.isWrapper; first | (rw [if_pos (by decide +kernel)]; kernel_rfl) | (rw [if_neg (by decide +kernel)]; exact ⟨rfl, rfl⟩))
  (fun os started H enc _ => lifted os started H enc)
end Go.Proofs.Ytpbhepdgamoiaaa.editClocksRow
namespace Go.Proofs.Ytpbhepdgamoiaaa
theorem editClocks_holds : Rows.EditClocksSaid := editClocksRow.over
#print axioms editClocks_holds
end Go.Proofs.Ytpbhepdgamoiaaa

/-
  EditMedia: for every input the law returns true. The reference's natural numbers: sums, differences, products, quotients, small ones. The reference divides. The normal list of a list of edits as a plain value, and that the code tells it. The reference's rational numbers as rational numbers. Whether lists are equal, alike; the first example of the chapter. The reference's normal list is the same. What the reference tells of a list: its normal list, its first error, its length. The reference's whole number of a rational number. The reference's time of a rational number is its lowest form. The reference's rational numbers in memory: what its calls make of them. The reference's first error and length; lists compared. The reference's Media: the walk (under way). EditMedia: what a list shows at a time is as the reference says. EditMedia: for every input the law returns true.
-/
import Derived.Test.YtpbhepdgamoiaaaQREditMediac
import Derived.Test.YtpbhepdgamoiaaaQREditMediab
import Derived.Outline
import Derived.Test.YtpbhepdgamoiaaaQREditMediaa
import Derived.Test.YtpbhepdgamoiaaaRows
import Derived.WalkKit
import Derived.ProofKit
import Derived.OpenShut
import Derived.ChangeOld
import Derived.Below
import Derived.SizedLaws
import Derived.Carry
namespace Go.Proofs.Ytpbhepdgamoiaaa.Pb
open Go.RowKit Go.Proofs.Ytpbhepdgamoiaaa.P Go.Proofs.Ytpbhepdgamoiaaa.E Go.Proofs.YtpbhepdgamoiaaaW.PrintWords Go.Proofs.YtpbhepdgamoiaaaW.PrintLast Go.Proofs.Ytpbhepdgamoiaaa.Ml Go.Proofs.Ytpbhepdgamoiaaa.Mn Go.Proofs.Ytpbhepdgamoiaaa.Pa
set_option linter.unusedVariables false
set_option linter.unusedSimpArgs false
theorem nv_take_all {l : List Int} {n : Nat} (h : l.length ≤ n) : dv 1000000000 (l.take n) = dv 1000000000 l := by rw [List.take_of_length_le h]
theorem dg_snoc {l : List Int} {x : Int} (h : Dg 1000000000 l) (h0 : 0 ≤ x) (h1 : x < 1000000000) : Dg 1000000000 (l ++ [x]) := h.append (Dg.cons h0 h1 (Dg.nil _))
theorem w1 {i : Nat} (h : i ≤ 10000000) : wrap64 ((i : Int) + 1) = ((i + 1 : Nat) : Int) := by rw [w64 (by omega) (by omega)]; omega
theorem minus_l (a b : List Int) (ha : Dg 1000000000 a) (hb : Dg 1000000000 b) (hn : a.length ≤ 1000000) (hlb : b.length ≤ a.length) (hle : dv 1000000000 b ≤ dv 1000000000 a) :
  ∀ (d i : Nat) (out : List Int) (c : Int), i + d = a.length → out.length = i → Dg 1000000000 out → 0 ≤ c → c ≤ 1 → dv 1000000000 out = dv 1000000000 (a.take i) - dv 1000000000 (b.take i) + c * pw 1000000000 i →
  ∃ r, Ev (fun k => dioramaref02_Minus.l0 k a b out c (i : Int)) r ∧ Nn r ∧ dv 1000000000 r = dv 1000000000 a - dv 1000000000 b ∧ r.length ≤ a.length := by
 intro d
 induction d with
 | zero =>
  intro i out c hi hl hd h0 h1 hv
  obtain ⟨r, he, hc, hr, hlr⟩ := trimmed_f out hd (by omega)
  have hlt := dv_lt (by decide) hd
  rw [hl] at hlt
  rw [nv_take_all (by omega), nv_take_all (by omega)] at hv
  have c0 : c = 0 := by
   rcases (show c = 0 ∨ c = 1 by omega) with h | h
   ·exact h
   ·rw [h] at hv
    omega
  refine ⟨r, Ev.step (f := fun k => (dioramaref02_trimmed.f k out).bind fun t => some t) (fun k => ?_) (Ev.bind he (Ev.now _)), hc, by rw [hr, hv, c0]; omega, by omega⟩
  simp only [dioramaref02_Minus.l0]
  rw [if_neg (by omega)]
 | succ d ih =>
  intro i out c hi hl hd h0 h1 hv
  have hx := ha.getD (by decide) i
  have hy := hb.getD (by decide) i
  have e1 := dv_take_succ' 1000000000 a i
  have e2 := dv_take_succ' 1000000000 b i
  have e3 := pw_succ 1000000000 i
  generalize hxv : a.getD i 0 = x at *
  generalize hyv : b.getD i 0 = y at *
  have hw : wrap64 (wrap64 (x - y) - c) = x - y - c := by rw [w64 (x := x - y) (by omega) (by omega), w64 (by omega) (by omega)]
  have hw2 : wrap64 (x - y - c + 1000000000) = x - y - c + 1000000000 := w64 (by omega) (by omega)
  by_cases hneg : x - y - c < 0
  ·obtain ⟨r, he, h⟩ := ih (i + 1) (out ++ [x - y - c + 1000000000]) 1 (by omega) (by simp [hl]) (dg_snoc hd (by omega) (by omega)) (by decide) (by decide) (by
    rw [dv_snoc, hl, hv, e1, e2, e3]
    grind)
   refine ⟨r, Ev.step (fun k => ?_) he, h⟩
   simp only [dioramaref02_Minus.l0]
   rw [if_pos (by omega), digit_f, digit_f, hxv, hyv]
   simp only [Option.bind_some, hw, hw2]
   rw [if_pos hneg, if_pos (by omega), w1 (by omega)]
  ·obtain ⟨r, he, h⟩ := ih (i + 1) (out ++ [x - y - c]) 0 (by omega) (by simp [hl]) (dg_snoc hd (by omega) (by omega)) (by decide) (by decide) (by
    rw [dv_snoc, hl, hv, e1, e2]
    grind)
   refine ⟨r, Ev.step (fun k => ?_) he, h⟩
   simp only [dioramaref02_Minus.l0]
   rw [if_pos (by omega), digit_f, digit_f, hxv, hyv]
   simp only [Option.bind_some, hw, hw2]
   rw [if_neg hneg, if_pos (by omega), w1 (by omega)]
theorem len_le {a b : List Int} (ha : Nn a) (hb : Nn b) (h : dv 1000000000 b ≤ dv 1000000000 a) : b.length ≤ a.length := by
 refine Nat.le_of_not_lt fun hl => ?_
 have := dv_len (by decide) ha.dg hb hl
 omega
theorem minus_f (a b : List Int) (ha : Nn a) (hb : Nn b) (hn : a.length ≤ 1000000) (hle : dv 1000000000 b ≤ dv 1000000000 a) : ∃ r, Ev (fun k => dioramaref02_Minus.f k a b) r ∧ Nn r ∧ dv 1000000000 r = dv 1000000000 a - dv 1000000000 b ∧ r.length ≤ a.length :=
 minus_l a b ha.dg hb.dg hn (len_le ha hb hle) hle a.length 0 [] 0 (by omega) rfl (Dg.nil _) (by decide) (by decide) (by simp [dv])
theorem plus_l (a b : List Int) (ha : Nn a) (hb : Nn b) (hn : a.length ≤ 1000000) (hm : b.length ≤ 1000000) :
  ∀ (d i : Nat) (out : List Int) (c : Int), i + d = max a.length b.length + 1 → out.length = i → Dg 1000000000 out → 0 ≤ c → c ≤ 1 → (i ≤ max a.length b.length ∨ c = 0) → (i < a.length ∨ i < b.length ∨ 0 < c ∨ Top out) → dv 1000000000 out = dv 1000000000 (a.take i) + dv 1000000000 (b.take i) - c * pw 1000000000 i →
  ∃ r, Ev (fun k => dioramaref02_Plus.l0 k a b out c (i : Int)) r ∧ Nn r ∧ dv 1000000000 r = dv 1000000000 a + dv 1000000000 b ∧ r.length ≤ max a.length b.length + 1 := by
 intro d
 induction d with
 | zero =>
  intro i out c hi hl hd h0 h1 hic ht hv
  have c0 : c = 0 := by omega
  subst c0
  rw [nv_take_all (by omega), nv_take_all (by omega)] at hv
  refine ⟨out, Ev.step (f := fun k => dioramaref02_Plus.j1 k a b out 0 (i : Int) (decide ((0 : Int) > 0))) (fun k => ?_) (Ev.step (f := fun _ => some out) (fun k => ?_) (Ev.now _)), ⟨hd, ?_⟩, by rw [hv]; omega, by omega⟩
  ·simp only [dioramaref02_Plus.l0]
   rw [if_neg (by omega), if_neg (by omega)]
  ·simp [dioramaref02_Plus.j1]
  ·rcases ht with h | h | h | h
   ·omega
   ·omega
   ·omega
   ·exact h
 | succ d ih =>
  intro i out c hi hl hd h0 h1 hic ht hv
  by_cases hgo : i < a.length ∨ i < b.length ∨ 0 < c
  ·have hx := ha.dg.getD (by decide) i
   have hy := hb.dg.getD (by decide) i
   have e1 := dv_take_succ' 1000000000 a i
   have e2 := dv_take_succ' 1000000000 b i
   have e3 := pw_succ 1000000000 i
   have zx : a.length ≤ i → a.getD i 0 = 0 := fun h => getD_ge h
   have zy : b.length ≤ i → b.getD i 0 = 0 := fun h => getD_ge h
   have tx : i + 1 = a.length → a.getD i 0 ≠ 0 := fun h => by have := top_getD ha.top (by omega); rwa [← h, Nat.add_sub_cancel] at this
   have ty : i + 1 = b.length → b.getD i 0 ≠ 0 := fun h => by have := top_getD hb.top (by omega); rwa [← h, Nat.add_sub_cancel] at this
   generalize hxv : a.getD i 0 = x at *
   generalize hyv : b.getD i 0 = y at *
   have hw : wrap64 (wrap64 (x + y) + c) = x + y + c := by rw [w64 (x := x + y) (by omega) (by omega), w64 (by omega) (by omega)]
   have hw2 : wrap64 ((x + y + c) / 1000000000) = (x + y + c) / 1000000000 := w64 (by omega) (by omega)
   obtain ⟨r, he, h⟩ := ih (i + 1) (out ++ [(x + y + c) % 1000000000]) ((x + y + c) / 1000000000) (by omega) (by simp [hl]) (dg_snoc hd (by omega) (by omega)) (by omega) (by omega)
    (by
     by_cases hmx : i < max a.length b.length
     ·left; omega
     ·right
      rw [zx (by omega), zy (by omega)]
      omega)
    (by
     by_cases g1 : i + 1 < a.length
     ·exact .inl g1
     ·by_cases g2 : i + 1 < b.length
      ·exact .inr (.inl g2)
      ·by_cases g3 : 0 < (x + y + c) / 1000000000
       ·exact .inr (.inr (.inl g3))
       ·refine .inr (.inr (.inr (top_of_getD ?_)))
        have hne : (x + y + c) % 1000000000 ≠ 0 := by
         rcases hgo with g | g | g
         ·have := tx (by omega); omega
         ·have := ty (by omega); omega
         ·omega
        simp only [List.length_append, List.length_singleton, Nat.add_sub_cancel]
        rw [List.getD_eq_getElem?_getD, List.getElem?_append_right (Nat.le_refl _)]
        simpa using hne)
    (by
     rw [dv_snoc, hl, hv, e1, e2, e3]
     have hdm := Int.mul_ediv_add_emod (x + y + c) 1000000000
     generalize (x + y + c) / 1000000000 = Q at *
     generalize (x + y + c) % 1000000000 = R at *
     have : R = x + y + c - 1000000000 * Q := by omega
     subst this
     grind)
   refine ⟨r, ?_, h⟩
   have hj : Ev (fun k => dioramaref02_Plus.j1 k a b out c (i : Int) true) r := by
    refine Ev.step (fun k => ?_) he
    simp only [dioramaref02_Plus.j1, if_true]
    rw [digit_f, digit_f, hxv, hyv]
    simp only [Option.bind_some, hw]
    rw [if_pos (by omega), tmodB (by omega), tdivB (by omega), hw2, w1 (by omega)]
   refine Ev.step (fun k => ?_) hj
   simp only [dioramaref02_Plus.l0]
   by_cases g1 : i < a.length
   ·rw [if_pos (by omega)]
   ·rw [if_neg (by omega)]
    by_cases g2 : i < b.length
    ·rw [if_pos (by omega)]
    ·rw [if_neg (by omega), decide_eq_true (show c > 0 by omega)]
  ·have c0 : c = 0 := by omega
   subst c0
   rw [nv_take_all (by omega), nv_take_all (by omega)] at hv
   refine ⟨out, Ev.step (f := fun k => dioramaref02_Plus.j1 k a b out 0 (i : Int) (decide ((0 : Int) > 0))) (fun k => ?_) (Ev.step (f := fun _ => some out) (fun k => ?_) (Ev.now _)), ⟨hd, ?_⟩, by rw [hv]; omega, by omega⟩
   ·simp only [dioramaref02_Plus.l0]
    rw [if_neg (by omega), if_neg (by omega)]
   ·simp [dioramaref02_Plus.j1]
   ·rcases ht with h | h | h | h
    ·omega
    ·omega
    ·omega
    ·exact h
theorem plus_f (a b : List Int) (ha : Nn a) (hb : Nn b) (hn : a.length ≤ 1000000) (hm : b.length ≤ 1000000) : ∃ r, Ev (fun k => dioramaref02_Plus.f k a b) r ∧ Nn r ∧ dv 1000000000 r = dv 1000000000 a + dv 1000000000 b ∧ r.length ≤ max a.length b.length + 1 :=
 plus_l a b ha hb hn hm (max a.length b.length + 1) 0 [] 0 (by omega) rfl (Dg.nil _) (by decide) (by decide) (.inr rfl) (.inr (.inr (.inr (fun h => absurd rfl h)))) (by simp [dv])
theorem mulB {c x y o : Int} (hc0 : 0 ≤ c) (hc1 : c < 1000000000) (hx0 : 0 ≤ x) (hx1 : x < 1000000000) (hy0 : 0 ≤ y) (hy1 : y < 1000000000) (ho0 : 0 ≤ o) (ho1 : o < 1000000000) :
  wrap64 (wrap64 (o + wrap64 (x * y)) + c) = o + x * y + c ∧ 0 ≤ o + x * y + c ∧ wrap64 (Int.tdiv (o + x * y + c) 1000000000) = (o + x * y + c) / 1000000000 ∧ (o + x * y + c) / 1000000000 < 1000000000 := by
 obtain ⟨h1, h2⟩ := mul_lt_sq hx0 hx1 hy0 hy1
 have h2' : x * y ≤ 999999998000000001 := h2
 rw [w64 (x := x * y) (by omega) (by omega), w64 (x := o + x * y) (by omega) (by omega), w64 (x := o + x * y + c) (by omega) (by omega), tdivB (by omega), w64 (by omega) (by omega)]
 refine ⟨rfl, by omega, rfl, by omega⟩
set_option maxHeartbeats 1000000 in
theorem times_l1 (a b : List Int) (i : Nat) (x : Int) (hx : a.getD i 0 = x) (hi : i < a.length) (hb : Dg 1000000000 b) (hx0 : 0 ≤ x) (hx1 : x < 1000000000) (hn : a.length + b.length ≤ 1000000) :
  ∀ (d j : Nat) (out : List Int) (c : Int), j + d = b.length → Dg 1000000000 out → out.length = a.length + b.length → 0 ≤ c → c < 1000000000 → (∀ m, i + b.length ≤ m → out.getD m 0 = 0) →
  ∃ out', (∀ r, Ev (fun k => dioramaref02_Times.l0 k a b out' ((i + 1 : Nat) : Int)) r → Ev (fun k => dioramaref02_Times.l1 k a b out (i : Int) c (j : Int)) r) ∧ out'.length = a.length + b.length ∧ Dg 1000000000 out' ∧
   dv 1000000000 out' = dv 1000000000 out + c * pw 1000000000 (i + j) + x * dv 1000000000 (b.drop j) * pw 1000000000 (i + j) ∧ ∀ m, i + 1 + b.length ≤ m → out'.getD m 0 = 0 := by
 intro d
 induction d with
 | zero =>
  intro j out c hj hd hl h0 h1 hz
  obtain rfl : j = b.length := by omega
  have hend : ∀ (out : List Int) (j : Nat) r, b.length ≤ j → Ev (fun k => dioramaref02_Times.l0 k a b out ((i + 1 : Nat) : Int)) r → Ev (fun k => dioramaref02_Times.l1 k a b out (i : Int) 0 (j : Int)) r := by
   intro out j r hj he
   refine Ev.step (fun k => ?_) he
   simp only [dioramaref02_Times.l1]
   rw [if_neg (by omega), if_neg (by omega), w1 (by omega)]
  rw [List.drop_of_length_le (Nat.le_refl _)]
  by_cases hc : c = 0
  ·subst hc
   exact ⟨out, fun r he => hend out _ r (Nat.le_refl _) he, hl, hd, by simp [dv], fun m hm => hz m (by omega)⟩
  ·refine ⟨out.set (i + b.length) c, fun r he => ?_, by simp [hl], hd.set _ h0 h1, ?_, fun m hm => by rw [getD_set (by omega)]; exact hz m (by omega)⟩
   ·have h2 := hend (out.set (i + b.length) c) (b.length + 1) r (by omega) he
    refine Ev.step (fun k => ?_) h2
    have hw : wrap64 ((i : Int) + (b.length : Int)) = ((i + b.length : Nat) : Int) := by rw [w64 (by omega) (by omega)]; omega
    obtain ⟨g1, g2, g3, g4⟩ := mulB (o := 0) (y := 0) h0 h1 hx0 hx1 (by decide) (by decide) (by decide) (by decide)
    have e0 : (0 : Int) + x * 0 + c = c := by omega
    rw [e0] at g1 g3
    simp only [dioramaref02_Times.l1, hw, rd_nat, hx, Int.toNat_natCast]
    rw [if_neg (by omega), if_pos (by omega), if_pos (by omega), if_pos (by omega), if_pos (by omega), if_pos (by omega), digit_f, getD_ge (Nat.le_refl _), hz _ (Nat.le_refl _)]
    simp only [Option.bind_some, g1, g3]
    rw [tmodB h0, Int.emod_eq_of_lt h0 h1, Int.ediv_eq_zero_of_lt h0 h1, w1 (by omega)]
   ·rw [dv_set _ _ _ _ (by omega), hz _ (Nat.le_refl _)]
    simp [dv]
 | succ d ih =>
  intro j out c hj hd hl h0 h1 hz
  have hy := hb.getD (by decide) j
  have ho := hd.getD (by decide) (i + j)
  have c1 : (j : Int) < (b.length : Int) := by omega
  have c2 : 0 ≤ ((i + j : Nat) : Int) := by omega
  have c3 : ((i + j : Nat) : Int) < (out.length : Int) := by omega
  have c4 : 0 ≤ (i : Int) := by omega
  have c5 : (i : Int) < (a.length : Int) := by omega
  have c6 : i + j < out.length := by omega
  have c7 : j < b.length := by omega
  have hw : wrap64 ((i : Int) + (j : Int)) = ((i + j : Nat) : Int) := by rw [w64 (by omega) (by omega)]; omega
  have hw1 := w1 (i := j) (by omega)
  have HW := Aside0.mk (And.intro hw hw1)
  clear hw hw1
  generalize hyv : b.getD j 0 = y at *
  generalize hov : out.getD (i + j) 0 = o at *
  obtain ⟨g1, g2, g3, g4⟩ := mulB h0 h1 hx0 hx1 hy.1 hy.2 ho.1 ho.2
  have gm := Int.mul_ediv_add_emod (o + x * y + c) 1000000000
  have gr0 := Int.emod_nonneg (o + x * y + c) (show (1000000000 : Int) ≠ 0 by decide)
  have gr1 := Int.emod_lt_of_pos (o + x * y + c) (show (0 : Int) < 1000000000 by decide)
  have gq0 : 0 ≤ (o + x * y + c) / 1000000000 := Int.ediv_nonneg g2 (by decide)
  have gt := tmodB g2
  generalize (o + x * y + c) / 1000000000 = q at *
  generalize (o + x * y + c) % 1000000000 = r' at *
  have hs : r' + 1000000000 * q = c + (x * y + o) := by clear g1 g3 gt; omega
  have HG := Aside0.mk (And.intro g1 (And.intro g3 gt))
  clear g1 g3 gt gm
  obtain ⟨out', k1, k2, k3, k4, k5⟩ := ih (j + 1) (out.set (i + j) r') q (by omega) (hd.set _ gr0 gr1) (by simp [hl]) gq0 g4 (fun m hm => by rw [getD_set (by omega)]; exact hz m hm)
  refine ⟨out', fun r he => ?_, k2, k3, ?_, k5⟩
  ·refine Ev.step (fun k => ?_) (k1 r he)
   simp only [dioramaref02_Times.l1, HW.out.1, rd_nat, hx, Int.toNat_natCast]
   rw [if_pos c1, if_pos c2, if_pos c3, if_pos c4, if_pos c5, digit_f, hyv, hov]
   simp only [Option.bind_some, HG.out.1, HG.out.2.1, HG.out.2.2, HW.out.2]
  ·rw [k4, dv_set _ _ _ _ c6, hov, dv_drop 1000000000 b j c7, hyv, ← Nat.add_assoc, pw_succ]
   exact (mul_step hs).symm
theorem times_l0 (a b : List Int) (ha : Dg 1000000000 a) (hb : Dg 1000000000 b) (hn : a.length + b.length ≤ 1000000) :
  ∀ (d i : Nat) (out : List Int), i + d = a.length → Dg 1000000000 out → out.length = a.length + b.length → dv 1000000000 out = dv 1000000000 (a.take i) * dv 1000000000 b → (∀ m, i + b.length ≤ m → out.getD m 0 = 0) →
  ∃ r, Ev (fun k => dioramaref02_Times.l0 k a b out (i : Int)) r ∧ Nn r ∧ dv 1000000000 r = dv 1000000000 a * dv 1000000000 b ∧ r.length ≤ a.length + b.length := by
 intro d
 induction d with
 | zero =>
  intro i out hi hd hl hv hz
  obtain ⟨r, he, hc, hr, hlr⟩ := trimmed_f out hd (by omega)
  refine ⟨r, Ev.step (f := fun k => (dioramaref02_trimmed.f k out).bind fun t => some t) (fun k => ?_) (Ev.bind he (Ev.now _)), hc, by rw [hr, hv, nv_take_all (by omega)], by omega⟩
  simp only [dioramaref02_Times.l0]
  rw [if_neg (by omega)]
 | succ d ih =>
  intro i out hi hd hl hv hz
  have hx := ha.getD (by decide) i
  obtain ⟨out', k1, k2, k3, k4, k5⟩ := times_l1 a b i (a.getD i 0) rfl (by omega) hb hx.1 hx.2 hn b.length 0 out 0 (by omega) hd hl (by decide) (by decide) hz
  obtain ⟨r, he, h⟩ := ih (i + 1) out' (by omega) k3 k2 (by
   rw [k4, hv, dv_take_succ' _ a i]
   simp only [List.drop_zero, Nat.add_zero]
   grind) (fun m hm => k5 m (by omega))
  refine ⟨r, Ev.step (fun k => ?_) (k1 r he), h⟩
  simp only [dioramaref02_Times.l0]
  rw [if_pos (by omega)]
  rfl
theorem times_f (a b : List Int) (ha : Nn a) (hb : Nn b) (hn : a.length + b.length ≤ 1000000) : ∃ r, Ev (fun k => dioramaref02_Times.f k a b) r ∧ Nn r ∧ dv 1000000000 r = dv 1000000000 a * dv 1000000000 b ∧ r.length ≤ a.length + b.length := by
 have e1 : wrap64 ((a.length : Int) + (b.length : Int)) = ((a.length + b.length : Nat) : Int) := by rw [w64 (by omega) (by omega)]; omega
 obtain ⟨r, he, h⟩ := times_l0 a b ha.dg hb.dg hn a.length 0 (List.replicate (a.length + b.length) 0) (by omega) (Dg.replicate (by decide) _) (by simp) (by rw [dv_replicate]; simp [dv]) (fun m _ => by
  rw [List.getD_eq_getElem?_getD, List.getElem?_replicate]
  split <;> rfl)
 refine ⟨r, Ev.congr (fun k => ?_) he, h⟩
 simp only [dioramaref02_Times.f, e1, Int.toNat_natCast]
 rw [if_pos (by omega), if_pos (by omega)]
 rfl
theorem drop_le (l : List Int) (hd : Dg 1000000000 l) (i : Nat) : dv 1000000000 (l.drop i) ≤ dv 1000000000 l ∧ 0 ≤ dv 1000000000 (l.drop i) := by
 have h0 := dv_nonneg (by decide) (hd.drop i)
 refine ⟨?_, h0⟩
 by_cases hi : i ≤ l.length
 ·have h1 := dv_split 1000000000 l i hi
  have h2 := dv_nonneg (by decide) (hd.take i)
  have h3 : 0 < pw 1000000000 i := pow_pos (by decide) i
  have h4 : 1 * dv 1000000000 (l.drop i) ≤ pw 1000000000 i * dv 1000000000 (l.drop i) := Int.mul_le_mul_of_nonneg_right (by omega) h0
  omega
 ·rw [List.drop_of_length_le (by omega)]
  exact dv_nonneg (by decide) hd
theorem small_l (l : List Int) (hd : Dg 1000000000 l) (hn : l.length ≤ 1000000) (hs : dv 1000000000 l ≤ 9223372036854775807) : ∀ i : Nat, i ≤ l.length → Ev (fun k => dioramaref02_Small.l0 k l (dv 1000000000 (l.drop i)) ((i : Int) - 1)) (dv 1000000000 l, true) := by
 intro i
 induction i with
 | zero =>
  intro _
  refine Ev.step (f := fun _ => some (dv 1000000000 l, true)) (fun k => ?_) (Ev.now _)
  simp [dioramaref02_Small.l0]
 | succ i ih =>
  intro hi
  have e : (((i + 1 : Nat) : Int) - 1) = (i : Int) := by omega
  have h1 := dv_drop 1000000000 l i (by omega)
  have h2 := drop_le l hd i
  have h3 := drop_le l hd (i + 1)
  have hx := hd.getD (by decide) i
  rw [e]
  refine Ev.step (fun k => ?_) (ih (by omega))
  simp only [dioramaref02_Small.l0, rd_nat]
  rw [if_pos (by omega), if_pos (by omega), if_pos (by omega), w64 (x := _ * 1000000000) (by omega) (by omega), w64 (x := _ + _) (by omega) (by omega), w64 (x := (i : Int) - 1) (by omega) (by omega), h1]
  congr 1
  omega
theorem small_f (l : List Int) (most : Int) (hl : Nn l) (hn : l.length ≤ 1000000) (h0 : 0 ≤ most) (h1 : most ≤ 9223372036854775807) : Ev (fun k => dioramaref02_Small.f k l most) (if most < dv 1000000000 l then (0, false) else (dv 1000000000 l, true)) := by
 obtain ⟨r, he, hr, hv, hlr⟩ := of_f most h0 h1
 have hc := compare_f l r hl hr hn (by omega)
 rw [hv] at hc
 by_cases hb : most < dv 1000000000 l
 ·rw [if_pos hb]
  rw [cmp2 hb] at hc
  exact Ev.bind he (Ev.bind hc (Ev.congr (f := fun _ => some (0, false)) (fun k => by simp) (Ev.now _)))
 ·rw [if_neg hb]
  have hle : ¬ (Nd.cmpI (dv 1000000000 l) most > 0) := by
   unfold Nd.cmpI
   by_cases h2 : dv 1000000000 l < most
   ·rw [if_pos h2]; decide
   ·rw [if_neg h2, if_neg hb]; decide
  have h2 := small_l l hl.dg hn (by omega) l.length (Nat.le_refl _)
  rw [List.drop_of_length_le (Nat.le_refl _)] at h2
  refine Ev.bind he (Ev.bind hc (Ev.congr (fun k => ?_) h2))
  rw [if_neg hle, w64 (by omega) (by omega)]
  rfl
end Go.Proofs.Ytpbhepdgamoiaaa.Pb
namespace Go.Proofs.Ytpbhepdgamoiaaa.Pc
open Go.RowKit Go.Proofs.Ytpbhepdgamoiaaa.P Go.Proofs.Ytpbhepdgamoiaaa.E Go.Proofs.YtpbhepdgamoiaaaW.PrintWords Go.Proofs.YtpbhepdgamoiaaaW.PrintLast Go.Proofs.Ytpbhepdgamoiaaa.Ml Go.Proofs.Ytpbhepdgamoiaaa.Mn Go.Proofs.Ytpbhepdgamoiaaa.Pa Go.Proofs.Ytpbhepdgamoiaaa.Pb
set_option linter.unusedVariables false
set_option linter.unusedSimpArgs false
theorem drop_set' {l : List Int} {i : Nat} {v : Int} : (l.set i v).drop (i + 1) = l.drop (i + 1) := by
 rw [List.drop_set]
 simp
theorem over_l1 (a b q rest : List Int) (i : Nat) (hb : Nn b) (hr : Nn rest) (hi : i < q.length) (hq : q.length ≤ 1000000) (hlb : b.length ≤ 100000) (hlr : rest.length ≤ 200000) (hbp : 0 < dv 1000000000 b) :
  ∀ (m : Nat) (low high : Int), high - low ≤ m → 0 ≤ low → low ≤ high → high ≤ 999999999 → low * dv 1000000000 b ≤ dv 1000000000 rest → dv 1000000000 rest < (high + 1) * dv 1000000000 b →
  ∃ t rest', 0 ≤ t ∧ t < 1000000000 ∧ Nn rest' ∧ dv 1000000000 rest = t * dv 1000000000 b + dv 1000000000 rest' ∧ dv 1000000000 rest' < dv 1000000000 b ∧ (∀ r, Ev (fun k => dioramaref02_Over.l0 k a b (q.set i t) rest' ((i : Int) - 1)) r → Ev (fun k => dioramaref02_Over.l1 k a b q rest (i : Int) low high) r) := by
 intro m
 induction m with
 | zero =>
  intro low high hm h0 h1 h2 hlo hhi
  obtain rfl : low = high := by omega
  obtain ⟨o, eo, ho, vo, lo⟩ := of_f low h0 (by omega)
  obtain ⟨p, ep, hp, vp, lp⟩ := times_f b o hb ho (by omega)
  have e1 : dv 1000000000 p = low * dv 1000000000 b := by rw [vp, vo, Int.mul_comm]
  obtain ⟨s, es, hs, vs, ls⟩ := minus_f rest p hr hp (by omega) (by omega)
  have e2 : (low + 1) * dv 1000000000 b = low * dv 1000000000 b + dv 1000000000 b := by rw [Int.add_mul]; omega
  refine ⟨low, s, h0, by omega, hs, by omega, by omega, fun r he => ?_⟩
  refine Ev.step (f := fun k => (dioramaref02_Of.f k low).bind fun t197 => ((dioramaref02_Times.f k b t197).bind fun t200 => ((dioramaref02_Minus.f k rest t200).bind fun t203 => (dioramaref02_Over.l0 k a b (q.set i low) t203 ((i : Int) - 1))))) (fun k => ?_) (Ev.bind eo (Ev.bind ep (Ev.bind es he)))
  simp only [dioramaref02_Over.l1, Int.toNat_natCast]
  rw [if_neg (by omega), if_pos (by omega), if_pos (by omega), w64 (by omega) (by omega)]
 | succ m ih =>
  intro low high hm h0 h1 h2 hlo hhi
  by_cases hlt : low < high
  ·have hmid : wrap64 (Int.tdiv (wrap64 (wrap64 (low + high) + 1)) 2) = (low + high + 1) / 2 := by
    rw [w64 (x := low + high) (by omega) (by omega), w64 (x := low + high + 1) (by omega) (by omega), Int.tdiv_eq_ediv_of_nonneg (by omega), w64 (by omega) (by omega)]
   have hm1 : low < (low + high + 1) / 2 := by omega
   have hm2 : (low + high + 1) / 2 ≤ high := by omega
   generalize (low + high + 1) / 2 = mid at *
   obtain ⟨o, eo, ho, vo, lo⟩ := of_f mid (by omega) (by omega)
   obtain ⟨p, ep, hp, vp, lp⟩ := times_f b o hb ho (by omega)
   have e1 : dv 1000000000 p = mid * dv 1000000000 b := by rw [vp, vo, Int.mul_comm]
   have ec := compare_f p rest hp hr (by omega) (by omega)
   rw [e1] at ec
   by_cases hc : mid * dv 1000000000 b ≤ dv 1000000000 rest
   ·obtain ⟨t, rest', g1, g2, g3, g4, g5, g6⟩ := ih mid high (by omega) (by omega) hm2 h2 hc hhi
    have hle : Nd.cmpI (mid * dv 1000000000 b) (dv 1000000000 rest) ≤ 0 := by
     unfold Nd.cmpI
     by_cases h2 : mid * dv 1000000000 b < dv 1000000000 rest
     ·rw [if_pos h2]; decide
     ·rw [if_neg h2, if_neg (by omega)]; decide
    refine ⟨t, rest', g1, g2, g3, g4, g5, fun r he => ?_⟩
    refine Ev.step (f := fun k => (dioramaref02_Of.f k mid).bind fun t206 => ((dioramaref02_Times.f k b t206).bind fun t209 => ((dioramaref02_Compare.f k t209 rest).bind fun t212 => (if t212 ≤ 0 then (dioramaref02_Over.l1 k a b q rest (i : Int) mid high) else (dioramaref02_Over.l1 k a b q rest (i : Int) low (wrap64 (mid - 1))))))) (fun k => ?_) (Ev.bind eo (Ev.bind ep (Ev.bind ec (Ev.congr (fun k => ?_) (g6 r he)))))
    ·simp only [dioramaref02_Over.l1, hmid]
     rw [if_pos hlt]
    ·rw [if_pos hle]
   ·have hw : wrap64 (mid - 1) = mid - 1 := w64 (by omega) (by omega)
    obtain ⟨t, rest', g1, g2, g3, g4, g5, g6⟩ := ih low (mid - 1) (by omega) h0 (by omega) (by omega) hlo (by rw [Int.sub_add_cancel]; omega)
    have hle : ¬ Nd.cmpI (mid * dv 1000000000 b) (dv 1000000000 rest) ≤ 0 := by
     rw [cmp2 (by omega)]; decide
    refine ⟨t, rest', g1, g2, g3, g4, g5, fun r he => ?_⟩
    refine Ev.step (f := fun k => (dioramaref02_Of.f k mid).bind fun t206 => ((dioramaref02_Times.f k b t206).bind fun t209 => ((dioramaref02_Compare.f k t209 rest).bind fun t212 => (if t212 ≤ 0 then (dioramaref02_Over.l1 k a b q rest (i : Int) mid high) else (dioramaref02_Over.l1 k a b q rest (i : Int) low (wrap64 (mid - 1))))))) (fun k => ?_) (Ev.bind eo (Ev.bind ep (Ev.bind ec (Ev.congr (fun k => ?_) (g6 r he)))))
    ·simp only [dioramaref02_Over.l1, hmid]
     rw [if_pos hlt]
    ·rw [if_neg hle, hw]
  ·exact ih low high (by omega) h0 h1 h2 hlo hhi
theorem over_l0 (a b : List Int) (ha : Dg 1000000000 a) (hb : Nn b) (hla : a.length ≤ 100000) (hlb : b.length ≤ 100000) (hbp : 0 < dv 1000000000 b) :
  ∀ (i : Nat) (q rest : List Int), i ≤ a.length → q.length = a.length → Dg 1000000000 q → Nn rest → dv 1000000000 rest < dv 1000000000 b → dv 1000000000 (a.drop i) = dv 1000000000 (q.drop i) * dv 1000000000 b + dv 1000000000 rest →
  ∃ r1 r2, Ev (fun k => dioramaref02_Over.l0 k a b q rest ((i : Int) - 1)) (r1, r2) ∧ Nn r1 ∧ Nn r2 ∧ dv 1000000000 a = dv 1000000000 r1 * dv 1000000000 b + dv 1000000000 r2 ∧ dv 1000000000 r2 < dv 1000000000 b ∧ r1.length ≤ a.length ∧ r2.length ≤ b.length := by
 have hlen : ∀ {l : List Int}, Nn l → dv 1000000000 l < dv 1000000000 b → l.length ≤ b.length := by
  intro l hl h
  refine Nat.le_of_not_lt fun h2 => ?_
  have := dv_len (by decide) hb.dg hl h2
  omega
 intro i
 induction i with
 | zero =>
  intro q rest _ hq dq hr hlt hv
  obtain ⟨r, he, hc, hvr, hlr⟩ := trimmed_f q dq (by omega)
  rw [List.drop_zero, List.drop_zero] at hv
  refine ⟨r, rest, Ev.step (f := fun k => (dioramaref02_trimmed.f k q).bind fun t => some (t, rest)) (fun k => ?_) (Ev.bind he (Ev.now _)), hc, hr, by rw [hvr]; exact hv, hlt, by omega, hlen hr hlt⟩
  simp [dioramaref02_Over.l0]
 | succ i ih =>
  intro q rest hi hq dq hr hlt hv
  have e : (((i + 1 : Nat) : Int) - 1) = (i : Int) := by omega
  have hx := ha.getD (by decide) i
  have hlr := hlen hr hlt
  obtain ⟨u, eu, hu, vu, lu⟩ := trimmed_f (a.getD i 0 :: rest) (Dg.cons hx.1 hx.2 hr.dg) (by simp; omega)
  have vu2 : dv 1000000000 u = a.getD i 0 + 1000000000 * dv 1000000000 rest := vu
  have r0 := dv_nonneg (by decide) hr.dg
  simp only [List.length_cons] at lu
  obtain ⟨t, rest', g1, g2, g3, g4, g5, g6⟩ := over_l1 a b q u i hb hu (by omega) (by omega) hlb (by omega) hbp 999999999 0 999999999 (by decide) (by decide) (by decide) (by decide) (by have := dv_nonneg (by decide) hu.dg ; omega) (by
   have : (1000000000 : Int) * (dv 1000000000 rest + 1) ≤ 1000000000 * dv 1000000000 b := Int.mul_le_mul_of_nonneg_left (by omega) (by decide)
   rw [vu2]
   omega)
  obtain ⟨r1, r2, he, h⟩ := ih (q.set i t) rest' (by omega) (by simpa using hq) (dq.set _ g1 g2) g3 g5 (by
   rw [dv_drop _ a i (by omega), dv_drop _ (q.set i t) i (by simp; omega), drop_set', getD_set_self (by omega), hv]
   have := vu2
   rw [g4] at this
   grind)
  refine ⟨r1, r2, ?_, h⟩
  rw [e]
  refine Ev.step (f := fun k => (dioramaref02_trimmed.f k (a.getD i 0 :: rest)).bind fun t193 => (dioramaref02_Over.l1 k a b q t193 (i : Int) 0 999999999)) (fun k => ?_) (Ev.bind eu (g6 _ he))
  simp only [dioramaref02_Over.l0, rd_nat, Option.bind_some, List.singleton_append, List.length_singleton]
  rw [if_pos (by omega), if_pos (by omega), if_pos (by omega), if_pos (by omega)]
theorem over_f (a b : List Int) (ha : Nn a) (hb : Nn b) (hla : a.length ≤ 100000) (hlb : b.length ≤ 100000) (hbp : 0 < dv 1000000000 b) :
  ∃ r1 r2, Ev (fun k => dioramaref02_Over.f k a b) (r1, r2) ∧ Nn r1 ∧ Nn r2 ∧ dv 1000000000 a = dv 1000000000 r1 * dv 1000000000 b + dv 1000000000 r2 ∧ dv 1000000000 r2 < dv 1000000000 b ∧ r1.length ≤ a.length ∧ r2.length ≤ b.length := by
 obtain ⟨r1, r2, he, h⟩ := over_l0 a b ha.dg hb hla hlb hbp a.length (List.replicate a.length 0) [] (Nat.le_refl _) (by simp) (Dg.replicate (by decide) _) (Cn.nil _) hbp (by rw [List.drop_of_length_le (Nat.le_refl _), List.drop_of_length_le (by simp)]; simp [dv])
 refine ⟨r1, r2, Ev.congr (fun k => ?_) he, h⟩
 simp only [dioramaref02_Over.f, Int.toNat_natCast]
 rw [if_pos (by omega), if_pos (by omega), w64 (by omega) (by omega)]
end Go.Proofs.Ytpbhepdgamoiaaa.Pc
namespace Go.Proofs.Ytpbhepdgamoiaaa.Pf
open Go.RowKit Go Go.Proofs.YtpbhepdgamoiaaaW.PrintWords Go.Proofs.YtpbhepdgamoiaaaW.PrintLast Go.Proofs.YtpbhepdgamoiaaaW.PrintMore Go.Proofs.Ytpbhepdgamoiaaa.Mn Go.Proofs.Ytpbhepdgamoiaaa.Rf Go.Proofs.Ytpbhepdgamoiaaa.Er Go.Proofs.Ytpbhepdgamoiaaa.Ek Go.Proofs.Ytpbhepdgamoiaaa.E Go.Proofs.Ytpbhepdgamoiaaa.Pe
set_option linter.unusedVariables false
set_option linter.unusedSimpArgs false
def lowV (x : Ed) : Ed := ⟨x.f0, x.f1, (qq x.f2 x.f3).num, ((qq x.f2 x.f3).den : Int)⟩
def ovV (ms ts : Int) (a b : Ed) : Bool := overB ms ts a.f0 a.f1 a.f2 a.f3 b.f1 b.f2 b.f3
def push (ms ts : Int) : List Ed → Ed → List Ed
 | [], e => [e]
 | a :: t, e => if ovV ms ts a e = true then ⟨a.f0 + e.f0, a.f1, a.f2, a.f3⟩ :: t else e :: a :: t
def nrmR (ms ts : Int) (out l : List Ed) : List Ed := (l.map lowV).foldl (push ms ts) out
def nrm (ms ts : Int) (l : List Ed) : List Ed := (nrmR ms ts [] l).reverse
def fin (out : List Ed) : List Ed × Int := if 20 < out.length then ([], 2) else (out.reverse, 0)
def nrmV (ms ts : Int) (l : List Ed) : List Ed × Int := if 1099511627776 < sumD l then ([], 2) else fin (nrmR ms ts [] l)
structure Wd (x : Ed) : Prop where
 d0 : 1 ≤ x.f0
 m0 : -1 ≤ x.f1
 m1 : x.f1 ≤ 1099511627776
 n0 : 0 ≤ x.f2
 n1 : x.f2 ≤ 1000
 e0 : 1 ≤ x.f3
 e1 : x.f3 ≤ 1000
theorem wd_low {x : Ed} (h : Vd x) : Wd (lowV x) := by
 have hq := qq_low h.n0 h.e0
 have h1 := h.n1
 have h2 := h.e1
 exact ⟨h.d0, h.m0, h.m1, hq.1, by unfold lowV; simp only; omega, hq.2.2.1, by unfold lowV; simp only; omega⟩
theorem low_f {x : Ed} (h : Vd x) : edit_lowest.f x.f0 x.f1 x.f2 x.f3 = some ((lowV x).f0, (lowV x).f1, (lowV x).f2, (lowV x).f3) := by
 unfold edit_lowest.f rateOk
 have h0 := h.n0
 have h1 := h.n1
 have h2 := h.e0
 have h3 := h.e1
 rw [decide_eq_true h0, decide_eq_true (show x.f2 ≤ 1000000 by omega), decide_eq_true h2, decide_eq_true (show x.f3 ≤ 1000000 by omega)]
 rfl
theorem over_f {ms ts : Int} {a b : Ed} (hc : Ck ms ts) (ha : Wd a) (hd : a.f0 ≤ 1099511627776) (hb : Wd b) : edit_clocks_over.f ms ts a.f0 a.f1 a.f2 a.f3 b.f0 b.f1 b.f2 b.f3 = some (ovV ms ts a b) := by
 unfold edit_clocks_over.f overOk in64
 have c0 := hc.m0
 have c1 := hc.m1
 have c2 := hc.t0
 have c3 := hc.t1
 have a0 := ha.d0
 have a1 := ha.m0
 have a2 := ha.m1
 have a3 := ha.n0
 have a4 := ha.n1
 have a5 := ha.e0
 have a6 := ha.e1
 have b1 := hb.m0
 have b2 := hb.m1
 rw [if_pos (by simp only [Bool.and_eq_true, decide_eq_true_eq]; omega)]
 rfl
theorem push_sum (ms ts : Int) (out : List Ed) (e : Ed) : sumD (push ms ts out e) = sumD out + e.f0 := by
 cases out with
 | nil => simp [push, sumD]
 | cons a t =>
  simp only [push]
  split
  ·simp only [sumD]; omega
  ·simp only [sumD]; omega
theorem push_wd {ms ts : Int} {out : List Ed} {e : Ed} (h : ∀ x ∈ out, Wd x) (he : Wd e) : ∀ x ∈ push ms ts out e, Wd x := by
 cases out with
 | nil => simpa [push] using he
 | cons a t =>
  have ha := h a (by simp)
  simp only [push]
  split
  ·intro x hx
   simp only [List.mem_cons] at hx
   rcases hx with rfl | hx
   ·have a0 := ha.d0
    have e0 := he.d0
    exact ⟨by simp only; omega, ha.m0, ha.m1, ha.n0, ha.n1, ha.e0, ha.e1⟩
   ·exact h x (by simp [hx])
  ·intro x hx
   simp only [List.mem_cons] at hx
   rcases hx with rfl | hx
   ·exact he
   ·exact h x (by simpa using hx)
theorem push_len (ms ts : Int) (out : List Ed) (e : Ed) : (push ms ts out e).length ≤ out.length + 1 := by
 cases out with
 | nil => simp [push]
 | cons a t =>
  simp only [push]
  split <;> simp
theorem wd_sum {l : List Ed} (h : ∀ x ∈ l, Wd x) : 0 ≤ sumD l := by
 induction l with
 | nil => simp [sumD]
 | cons x t ih =>
  have h1 := (h x (by simp)).d0
  have h2 := ih (fun y hy => h y (by simp [hy]))
  simp only [sumD]
  omega
theorem normal_l {ms ts : Int} (hc : Ck ms ts) (l : List Ed) (hV : ∀ x ∈ l, Vd x) (hl : l.length ≤ 1000000000) (rest : List Ed) :
  ∀ pre out, l = pre ++ rest → sumD out = sumD pre → sumD pre ≤ 1099511627776 → (∀ x ∈ out, Wd x) → out.length ≤ pre.length →
   Ev (fun k => edit_clocks_normal.l0 k out.reverse (sumD pre) l (l.length : Int) (pre.length : Int) ms ts) (if 1099511627776 < sumD l then ([], 2) else fin (nrmR ms ts out rest)) := by
 induction rest with
 | nil =>
  intro pre out he hs hp hw ho
  subst he
  rw [if_neg (by simp only [List.append_nil]; omega)]
  refine Ev.step (f := fun _ => some (fin (nrmR ms ts out []))) (fun k => ?_) (Ev.now _)
  simp only [edit_clocks_normal.l0, List.append_nil]
  rw [if_neg (by omega)]
  unfold fin nrmR
  simp only [List.map_nil, List.foldl_nil, List.length_reverse]
  by_cases h : 20 < out.length
  ·rw [if_pos h, if_pos (by omega)]
  ·rw [if_neg h, if_neg (by omega)]
 | cons x t ih =>
  intro pre out he hs hp hw ho
  have hlen : l.length = pre.length + (t.length + 1) := by rw [he]; simp
  have hx : rd_T77 l (pre.length : Int) = x := by rw [he]; exact rd_at pre x t
  have hvx : Vd x := hV x (by rw [he]; simp)
  have hst : 0 ≤ sumD t := sumD_nonneg (fun y hy => hV y (by rw [he]; simp [hy]))
  have hsl : sumD l = sumD pre + x.f0 + sumD t := by rw [he, sumD_app]; simp only [sumD]; omega
  have hs0 : 0 ≤ sumD pre := by rw [← hs]; exact wd_sum hw
  have hd0 := hvx.d0
  have hd1 := hvx.d1
  have hsp : sumD (pre ++ [x]) = sumD pre + x.f0 := by rw [sumD_app]; simp [sumD]
  by_cases hbig : sumD pre + x.f0 > 1099511627776
  ·rw [if_pos (by omega)]
   refine Ev.step (f := fun _ => some ([], 2)) (fun k => ?_) (Ev.now _)
   simp only [edit_clocks_normal.l0]
   rw [if_pos (by omega), if_pos (by omega), if_pos (by omega), hx, low_f hvx]
   simp only [Option.bind_some]
   rw [show (lowV x).f0 = x.f0 from rfl, w64 (by omega) (by omega), if_pos hbig]
  ·have hwl := wd_low hvx
   have hr := ih (pre ++ [x]) (push ms ts out (lowV x)) (by rw [he]; simp) (by rw [push_sum, hs, hsp]; rfl) (by omega) (push_wd hw hwl) (by have := push_len ms ts out (lowV x); simp only [List.length_append, List.length_cons, List.length_nil]; omega)
   have hn : nrmR ms ts out (x :: t) = nrmR ms ts (push ms ts out (lowV x)) t := rfl
   rw [hn]
   refine Ev.step (f := fun k => edit_clocks_normal.l1 k out.reverse (sumD (pre ++ [x])) (out.reverse.length : Int) l (l.length : Int) (pre.length : Int) ms ts (lowV x).f0 (lowV x).f1 (lowV x).f2 (lowV x).f3) (fun k => ?_) ?_
   ·simp only [edit_clocks_normal.l0]
    rw [if_pos (by omega), if_pos (by omega), if_pos (by omega), hx, low_f hvx]
    simp only [Option.bind_some]
    rw [show (lowV x).f0 = x.f0 from rfl, w64 (by omega) (by omega), if_neg hbig, hsp]
   ·refine Ev.step (f := fun k => edit_clocks_normal.l0 k (push ms ts out (lowV x)).reverse (sumD (pre ++ [x])) l (l.length : Int) ((pre ++ [x]).length : Int) ms ts) (fun k => ?_) hr
    simp only [edit_clocks_normal.l1]
    have hpl : wrap64 ((pre.length : Int) + 1) = ((pre ++ [x]).length : Int) := by rw [w64 (by omega) (by omega)]; simp
    rw [hpl]
    cases out with
    | nil =>
     rw [if_neg (show ¬ (([] : List Ed).reverse.length : Int) > 0 by simp), if_pos (show ([] : List Ed).reverse.length < 4398046511104 by simp)]
     rfl
    | cons a o =>
     have hla : (a :: o).reverse.length = o.length + 1 := by simp
     have hra : rd_T77 (a :: o).reverse (o.length : Int) = a := by
      rw [List.reverse_cons]
      have := rd_at o.reverse a []
      rw [List.length_reverse] at this
      exact this
     have hol : o.length + 1 ≤ pre.length := ho
     have hsa := wd_sum (l := o) (fun y hy => hw y (by simp [hy]))
     have hda : a.f0 ≤ 1099511627776 := by simp only [sumD] at hs; omega
     rw [hla, if_pos (by omega), w64 (by omega) (by omega), show ((o.length + 1 : Nat) : Int) - 1 = (o.length : Int) by omega, if_pos (by omega), if_pos (by omega), hra]
     have ha0 := (hw a (by simp)).d0
     have hov : edit_clocks_over.f ms ts a.f0 a.f1 a.f2 a.f3 (lowV x).f0 (lowV x).f1 (lowV x).f2 (lowV x).f3 = some (ovV ms ts a (lowV x)) := over_f hc (hw a (by simp)) hda hwl
     rw [hov]
     simp only [Option.bind_some, push]
     by_cases hb : ovV ms ts a (lowV x) = true
     ·rw [if_pos hb, if_pos hb]
      have hf : (lowV x).f0 = x.f0 := rfl
      simp only [sumD] at hs
      rw [w64 (by rw [hf]; omega) (by rw [hf]; omega)]
      congr 1
      rw [List.reverse_cons, List.reverse_cons, Int.toNat_natCast]
      have : o.length = o.reverse.length := by simp
      rw [this, List.set_append_right _ _ (Nat.le_refl _)]
      simp
     ·rw [if_neg hb, if_neg hb, if_pos (by omega)]
      congr 1
      simp
theorem normal_f {ms ts : Int} (hc : Ck ms ts) (l : List Ed) (hV : ∀ x ∈ l, Vd x) (hl : l.length ≤ 1000000000) : Ev (fun k => edit_clocks_normal.f k ms ts l) (nrmV ms ts l) :=
 normal_l hc l hV hl l [] [] rfl rfl (by simp [sumD]) (by simp) (by simp)
theorem nrmR_len (ms ts : Int) (l : List Ed) : ∀ out, (nrmR ms ts out l).length ≤ out.length + l.length := by
 induction l with
 | nil => intro out; simp [nrmR]
 | cons x t ih =>
  intro out
  have h := ih (push ms ts out (lowV x))
  have hn : nrmR ms ts out (x :: t) = nrmR ms ts (push ms ts out (lowV x)) t := rfl
  have h2 := push_len ms ts out (lowV x)
  rw [hn]
  simp only [List.length_cons]
  omega
def norV (ms ts : Int) (l : List Ed) : List Ed × Int := if chk l ms ts = 0 then (nrm ms ts l, 0) else ([], chk l ms ts)
theorem Normal_f (l : List Ed) (ms ts : Int) : Ev (fun k => edit_Normal.f k l ms ts) (norV ms ts l) := by
 unfold norV
 by_cases h0 : chk l ms ts = 0
 ·obtain ⟨hc, hl, hV, hs⟩ := chk_ok.1 h0
  rw [if_pos h0]
  have hr : nrmV ms ts l = (nrm ms ts l, 0) := by
   have := nrmR_len ms ts l []
   simp only [List.length_nil] at this
   unfold nrmV fin nrm
   rw [if_neg (by omega), if_neg (by omega)]
  have h1 := check_f l ms ts
  rw [h0] at h1
  refine Ev.congr (fun k => rfl) (Ev.bind h1 ?_)
  refine Ev.congr (fun k => if_pos rfl) (Ev.bind (normal_f hc l hV (by omega)) ?_)
  rw [hr]
  exact Ev.now _
 ·rw [if_neg h0]
  refine Ev.congr (fun k => rfl) (Ev.bind (check_f l ms ts) ?_)
  refine Ev.congr (fun k => if_neg h0) (Ev.now _)
end Go.Proofs.Ytpbhepdgamoiaaa.Pf
namespace Go.Proofs.Ytpbhepdgamoiaaa.Qr
open Go.RowKit Go Go.Proofs.YtpbhepdgamoiaaaW.PrintWords Go.Proofs.YtpbhepdgamoiaaaW.PrintLast Go.Proofs.YtpbhepdgamoiaaaW.PrintMore Go.Proofs.Ytpbhepdgamoiaaa.Ml Go.Proofs.Ytpbhepdgamoiaaa.Mn Go.Proofs.Ytpbhepdgamoiaaa.Nd Go.Proofs.Ytpbhepdgamoiaaa.Pa Go.Proofs.Ytpbhepdgamoiaaa.Pb Go.Proofs.Ytpbhepdgamoiaaa.Rf Go.Proofs.Ytpbhepdgamoiaaa.Er Go.Proofs.Ytpbhepdgamoiaaa.Ek Go.Proofs.Ytpbhepdgamoiaaa.E Go.Proofs.Ytpbhepdgamoiaaa.Pe Go.Proofs.Ytpbhepdgamoiaaa.Pf
set_option linter.unusedVariables false
set_option linter.unusedSimpArgs false
structure RV (b : Bool) (x y : List Int) (q : Rat) (n : Nat) : Prop where
 nx : Nn x
 ny : Nn y
 pos : 0 < dv 1000000000 y
 eq : q = qq (sg b (dv 1000000000 x)) (dv 1000000000 y)
 lx : x.length ≤ n
 ly : y.length ≤ n
theorem RV.mono {b : Bool} {x y : List Int} {q : Rat} {n m : Nat} (h : RV b x y q n) (hm : n ≤ m) : RV b x y q m := ⟨h.nx, h.ny, h.pos, h.eq, Nat.le_trans h.lx hm, Nat.le_trans h.ly hm⟩
theorem RV.x0 {b : Bool} {x y : List Int} {q : Rat} {n : Nat} (h : RV b x y q n) : 0 ≤ dv 1000000000 x := dv_nonneg (by decide) h.nx.dg
def RE (f : Nat → Option (Bool × List Int × List Int)) (q : Rat) (n : Nat) : Prop := ∃ b x y, Ev f (b, x, y) ∧ RV b x y q n
theorem qq_parts {a b : Int} (hb : 0 < b) : ∃ g : Int, 0 < g ∧ a = (qq a b).num * g ∧ b = ((qq a b).den : Int) * g := by
 obtain ⟨h1, h2⟩ := rat_low (a := a) (b := b) (by omega)
 refine ⟨(Int.gcd a b : Nat), ?_, ?_, ?_⟩
 ·have := Int.gcd_pos_of_ne_zero_right a (show b ≠ 0 by omega)
  omega
 ·rw [← h1]
  unfold Ra.ratN Ea.lowN
  rw [if_neg (by omega)]
  exact (Int.ediv_mul_cancel (Int.gcd_dvd_left a b)).symm
 ·rw [← h2]
  unfold Ra.ratD Ea.lowD
  rw [if_neg (by omega)]
  exact (Int.ediv_mul_cancel (Int.gcd_dvd_right a b)).symm
theorem qq_lt {a b c d : Int} (hb : 0 < b) (hd : 0 < d) : qq a b < qq c d ↔ a * d < c * b := by
 obtain ⟨g, hg, e1, e2⟩ := qq_parts (a := a) hb
 obtain ⟨h, hh, e3, e4⟩ := qq_parts (a := c) hd
 rw [Rat.lt_iff]
 generalize (qq a b).num = N1 at *
 generalize ((qq a b).den : Int) = D1 at *
 generalize (qq c d).num = N2 at *
 generalize ((qq c d).den : Int) = D2 at *
 subst e1 e2 e3 e4
 have k1 : N1 * g * (D2 * h) = N1 * D2 * (g * h) := by grind
 have k2 : N2 * h * (D1 * g) = N2 * D1 * (g * h) := by grind
 rw [k1, k2]
 exact (Int.mul_lt_mul_right (Int.mul_pos hg hh)).symm
theorem ratio_f (n d : Int) (hn : -9223372036854775807 ≤ n) (hn1 : n ≤ 9223372036854775807) (hd : 0 < d) (hd1 : d ≤ 9223372036854775807) : RE (fun k => dioramaref10_ratio.f k n d) (qq n d) 3 := by
 obtain ⟨y, ey, ny, vy, ly⟩ := of_f d (by omega) hd1
 by_cases h : n < 0
 ·obtain ⟨x, ex, nx, vx, lx⟩ := of_f (-n) (by omega) (by omega)
  refine ⟨true, x, y, ?_, ⟨nx, ny, by rw [vy]; exact hd, by rw [vx, vy]; simp [sg], lx, ly⟩⟩
  refine Ev.congr (fun k => if_pos h) ?_
  rw [w64 (by omega) (by omega)]
  exact Ev.bind ex (Ev.bind ey (Ev.now _))
 ·obtain ⟨x, ex, nx, vx, lx⟩ := of_f n (by omega) hn1
  refine ⟨false, x, y, ?_, ⟨nx, ny, by rw [vy]; exact hd, by rw [vx, vy]; simp [sg], lx, ly⟩⟩
  refine Ev.congr (fun k => if_neg h) ?_
  exact Ev.bind ex (Ev.bind ey (Ev.now _))
theorem sg_ne (a b : Bool) (x y : Int) : sg (a != b) (x * y) = sg a x * sg b y := by cases a <;> cases b <;> simp [sg, Int.neg_mul, Int.mul_neg]
theorem timesR_f {b1 b2 : Bool} {x1 y1 x2 y2 : List Int} {p q : Rat} {n m : Nat} (h1 : RV b1 x1 y1 p n) (h2 : RV b2 x2 y2 q m) (hl : n + m ≤ 1000000) : RE (fun k => dioramaref10_times.f k b1 x1 y1 b2 x2 y2) (p * q) (n + m) := by
 have l1 := h1.lx
 have l2 := h1.ly
 have l3 := h2.lx
 have l4 := h2.ly
 obtain ⟨x, ex, nx, vx, lx⟩ := times_f x1 x2 h1.nx h2.nx (by omega)
 obtain ⟨y, ey, ny, vy, ly⟩ := times_f y1 y2 h1.ny h2.ny (by omega)
 refine ⟨b1 != b2, x, y, Ev.congr (fun k => rfl) (Ev.bind ex (Ev.bind ey (Ev.now _))), ⟨nx, ny, by rw [vy]; exact Int.mul_pos h1.pos h2.pos, ?_, by omega, by omega⟩⟩
 rw [h1.eq, h2.eq, vx, vy, sg_ne]
 unfold qq
 rw [Rat.divInt_mul_divInt]
theorem sumR_f {b1 b2 : Bool} {x1 y1 x2 y2 : List Int} {p q : Rat} {n m : Nat} (h1 : RV b1 x1 y1 p n) (h2 : RV b2 x2 y2 q m) (hl : n + m + 2 ≤ 1000000) : RE (fun k => dioramaref02_Sum.f k b1 x1 y1 b2 x2 y2) (p + q) (n + m + 1) := by
 have l1 := h1.lx
 have l2 := h1.ly
 have l3 := h2.lx
 have l4 := h2.ly
 obtain ⟨u, eu, nu, vu, lu⟩ := times_f x1 y2 h1.nx h2.ny (by omega)
 obtain ⟨v, ev, nv, vv, lv⟩ := times_f x2 y1 h2.nx h1.ny (by omega)
 obtain ⟨y, ey, ny, vy, ly⟩ := times_f y1 y2 h1.ny h2.ny (by omega)
 have hpos : 0 < dv 1000000000 y := by rw [vy]; exact Int.mul_pos h1.pos h2.pos
 have heq : p + q = qq (sg b1 (dv 1000000000 u) + sg b2 (dv 1000000000 v)) (dv 1000000000 y) := by
  have e1 : sg b1 (dv 1000000000 u) = sg b1 (dv 1000000000 x1) * dv 1000000000 y2 := by rw [vu]; cases b1 <;> simp [sg, Int.neg_mul]
  have e2 : sg b2 (dv 1000000000 v) = sg b2 (dv 1000000000 x2) * dv 1000000000 y1 := by rw [vv]; cases b2 <;> simp [sg, Int.neg_mul]
  rw [h1.eq, h2.eq, vy, e1, e2]
  unfold qq
  rw [Rat.divInt_add_divInt _ _ (by have := h1.pos; omega) (by have := h2.pos; omega)]
 by_cases hb : b1 = b2
 ·subst hb
  obtain ⟨s, es, ns, vs, ls⟩ := plus_f u v nu nv (by omega) (by omega)
  refine ⟨b1, s, y, ?_, ⟨ns, ny, hpos, ?_, by omega, by omega⟩⟩
  ·refine Ev.congr (fun k => rfl) (Ev.bind eu (Ev.bind ev (Ev.bind ey ?_)))
   exact Ev.congr (fun k => if_pos (by simp)) (Ev.bind es (Ev.now _))
  ·rw [heq, vs]
   cases b1
   ·simp [sg]
   ·simp [sg, Int.neg_add]
 ·have hc := compare_f u v nu nv (by omega) (by omega)
  have hne : ¬ (b1 == b2) = true := by simpa using hb
  by_cases hle : dv 1000000000 v ≤ dv 1000000000 u
  ·obtain ⟨s, es, ns, vs, ls⟩ := minus_f u v nu nv (by omega) hle
   refine ⟨b1, s, y, ?_, ⟨ns, ny, hpos, ?_, by omega, by omega⟩⟩
   ·refine Ev.congr (fun k => rfl) (Ev.bind eu (Ev.bind ev (Ev.bind ey ?_)))
    refine Ev.congr (fun k => if_neg hne) (Ev.bind hc ?_)
    refine Ev.congr (fun k => if_pos ?_) (Ev.bind es (Ev.now _))
    unfold cmpI
    rw [if_neg (by omega)]
    split <;> decide
   ·rw [heq, vs]
    cases b1 <;> cases b2 <;> simp [sg] at hb ⊢ <;> congr 1 <;> omega
  ·obtain ⟨s, es, ns, vs, ls⟩ := minus_f v u nv nu (by omega) (by omega)
   refine ⟨b2, s, y, ?_, ⟨ns, ny, hpos, ?_, by omega, by omega⟩⟩
   ·refine Ev.congr (fun k => rfl) (Ev.bind eu (Ev.bind ev (Ev.bind ey ?_)))
    refine Ev.congr (fun k => if_neg hne) (Ev.bind hc ?_)
    refine Ev.congr (fun k => if_neg ?_) (Ev.bind es (Ev.now _))
    unfold cmpI
    rw [if_pos (by omega)]
    decide
   ·rw [heq, vs]
    cases b1 <;> cases b2 <;> simp [sg] at hb ⊢ <;> congr 1 <;> omega
theorem plusR_f {b1 b2 : Bool} {x1 y1 x2 y2 : List Int} {p q : Rat} {n m : Nat} (h1 : RV b1 x1 y1 p n) (h2 : RV b2 x2 y2 q m) (hl : n + m + 2 ≤ 1000000) : RE (fun k => dioramaref10_plus.f k b1 x1 y1 b2 x2 y2) (p + q) (n + m + 1) := by
 obtain ⟨b, x, y, he, hv⟩ := sumR_f h1 h2 hl
 exact ⟨b, x, y, Ev.congr (fun k => rfl) (Ev.bind he (Ev.now _)), hv⟩
theorem RV.neg {b : Bool} {x y : List Int} {q : Rat} {n : Nat} (h : RV b x y q n) : RV (!b) x y (-q) n := by
 refine ⟨h.nx, h.ny, h.pos, ?_, h.lx, h.ly⟩
 rw [h.eq]
 unfold qq
 rw [Rat.neg_divInt]
 congr 1
 cases b <;> simp [sg]
theorem RV.sign {b : Bool} {x y : List Int} {q : Rat} {n : Nat} (h : RV b x y q n) : (b && decide ((x.length : Int) > 0)) = decide (q < 0) := by
 have h0 := h.x0
 have hz := dv_eq_zero (by decide) h.nx
 have hq : q < 0 ↔ sg b (dv 1000000000 x) < 0 := by
  have e : (0 : Rat) = qq 0 1 := by unfold qq; simp
  rw [h.eq, e, qq_lt h.pos (by decide)]
  simp
 rw [Bool.eq_iff_iff]
 simp only [Bool.and_eq_true, decide_eq_true_eq, hq]
 have hl : (x.length : Int) > 0 ↔ dv 1000000000 x ≠ 0 := by
  rw [ne_eq, hz]
  cases x <;> simp
 rw [hl]
 cases b
 ·simp [sg]; omega
 ·simp [sg]; omega
theorem lessR_f {b1 b2 : Bool} {x1 y1 x2 y2 : List Int} {p q : Rat} {n m : Nat} (h1 : RV b1 x1 y1 p n) (h2 : RV b2 x2 y2 q m) (hl : n + m + 2 ≤ 1000000) : Ev (fun k => dioramaref02_Less.f k b1 x1 y1 b2 x2 y2) (decide (p < q)) := by
 obtain ⟨b, x, y, he, hv⟩ := sumR_f h1 h2.neg hl
 have hs := hv.sign
 have e : decide (p + -q < 0) = decide (p < q) := by
  congr 1
  apply propext
  constructor <;> intro h <;> grind
 rw [e] at hs
 refine Ev.congr (fun k => rfl) (Ev.bind he ?_)
 cases b with
 | true =>
  refine Ev.congr (fun k => if_pos rfl) ?_
  rw [← hs]
  exact Ev.now _
 | false =>
  refine Ev.congr (f := fun _ => some false) (fun k => if_neg (by simp)) ?_
  rw [← hs]
  exact Ev.now _
theorem rate_f (d m n e : Int) (hn : 0 ≤ n) (hn1 : n ≤ 1000000) (he : 1 ≤ e) (he1 : e ≤ 1000000) : RE (fun k => dioramaref10_rate.f k d m n e) (qq n e) 3 := by
 obtain ⟨b, x, y, he, hv⟩ := ratio_f n e (by omega) (by omega) (by omega) (by omega)
 exact ⟨b, x, y, Ev.congr (fun k => rfl) (Ev.bind he (Ev.now _)), hv⟩
theorem media_f {b : Bool} {x y : List Int} {p : Rat} {N : Nat} (d m n e ts : Int) (hn : 0 ≤ n) (hn1 : n ≤ 1000000) (he : 1 ≤ e) (he1 : e ≤ 1000000) (hm : -9223372036854775807 ≤ m) (hm1 : m ≤ 9223372036854775807) (ht : 1 ≤ ts) (ht1 : ts ≤ 1000000) (h : RV b x y p N) (hl : N ≤ 1000) :
  RE (fun k => dioramaref10_media.f k d m n e ts b x y) (qq m ts + p * qq n e) (N + 7) := by
 obtain ⟨b1, x1, y1, e1, v1⟩ := ratio_f m ts hm hm1 (by omega) (by omega)
 obtain ⟨b2, x2, y2, e2, v2⟩ := rate_f d m n e hn hn1 he he1
 obtain ⟨b3, x3, y3, e3, v3⟩ := timesR_f h v2 (by omega)
 obtain ⟨b4, x4, y4, e4, v4⟩ := plusR_f v1 v3 (by omega)
 exact ⟨b4, x4, y4, Ev.congr (fun k => rfl) (Ev.bind e1 (Ev.bind e2 (Ev.bind e3 (Ev.bind e4 (Ev.now _))))), v4.mono (by omega)⟩
end Go.Proofs.Ytpbhepdgamoiaaa.Qr
namespace Go.Proofs.Ytpbhepdgamoiaaa.Pg
open Go.RowKit Go Go.Proofs.YtpbhepdgamoiaaaW.PrintWords Go.Proofs.YtpbhepdgamoiaaaW.PrintLast Go.Proofs.YtpbhepdgamoiaaaW.PrintMore Go.Proofs.Ytpbhepdgamoiaaa.Mn Go.Proofs.Ytpbhepdgamoiaaa.Rf Go.Proofs.Ytpbhepdgamoiaaa.Er Go.Proofs.Ytpbhepdgamoiaaa.Ek Go.Proofs.Ytpbhepdgamoiaaa.E Go.Proofs.Ytpbhepdgamoiaaa.Pe Go.Proofs.Ytpbhepdgamoiaaa.Pf
set_option linter.unusedVariables false
set_option linter.unusedSimpArgs false
instance : DecidableEq Ed := fun x y =>
 decidable_of_iff (x.f0 = y.f0 ∧ x.f1 = y.f1 ∧ x.f2 = y.f2 ∧ x.f3 = y.f3) ⟨fun h => by cases x; cases y; simp_all, fun h => by subst h; simp⟩
def exL : List Ed := [⟨10, 0, 1, 1⟩, ⟨5, 10, 1, 1⟩]
theorem nrm_ex : nrm 10 10 exL = [⟨15, 0, 1, 1⟩] := by decide +kernel
theorem chk_ex : chk exL 10 10 = 0 := by decide +kernel
theorem awake_f : Ev (fun k => dioramalaw10_awake.f k) true := by
 have h := Normal_f exL 10 10
 unfold norV at h
 rw [if_pos chk_ex, nrm_ex] at h
 refine Ev.congr (fun k => rfl) (Ev.bind h ?_)
 refine Ev.congr (f := fun _ => some true) (fun k => ?_) (Ev.now _)
 rfl
theorem many_f (l : List Ed) : dioramalaw10_many.f l = some (decide (60 < l.length)) := by
 unfold dioramalaw10_many.f
 congr 1
 by_cases h : 60 < l.length
 ·rw [decide_eq_true h, decide_eq_true (by omega)]
 ·rw [decide_eq_false h, decide_eq_false (by omega)]
end Go.Proofs.Ytpbhepdgamoiaaa.Pg
namespace Go.Proofs.Ytpbhepdgamoiaaa.Qn
open Go.RowKit Go Go.Proofs.YtpbhepdgamoiaaaW.PrintWords Go.Proofs.YtpbhepdgamoiaaaW.PrintLast Go.Proofs.YtpbhepdgamoiaaaW.PrintMore Go.Proofs.Ytpbhepdgamoiaaa.Ml Go.Proofs.Ytpbhepdgamoiaaa.Mn Go.Proofs.Ytpbhepdgamoiaaa.Nd Go.Proofs.Ytpbhepdgamoiaaa.Pa Go.Proofs.Ytpbhepdgamoiaaa.Pb Go.Proofs.Ytpbhepdgamoiaaa.Rf Go.Proofs.Ytpbhepdgamoiaaa.Er Go.Proofs.Ytpbhepdgamoiaaa.Ek Go.Proofs.Ytpbhepdgamoiaaa.E Go.Proofs.Ytpbhepdgamoiaaa.Pe Go.Proofs.Ytpbhepdgamoiaaa.Pf Go.Proofs.Ytpbhepdgamoiaaa.Pg Go.Proofs.Ytpbhepdgamoiaaa.Qr
set_option linter.unusedVariables false
set_option linter.unusedSimpArgs false
theorem qq_eq {a b c d : Int} (hb : b ≠ 0) (hd : d ≠ 0) : qq a b = qq c d ↔ a * d = c * b := by
 unfold qq
 exact Rat.divInt_eq_divInt_iff hb hd
theorem isEmpty_f (x : Ed) : dioramaref10_isEmpty.f x.f0 x.f1 x.f2 x.f3 = some (decide (x.f1 = -1)) := by
 unfold dioramaref10_isEmpty.f
 congr 1
end Go.Proofs.Ytpbhepdgamoiaaa.Qn
namespace Go.Proofs.Ytpbhepdgamoiaaa.Qo
open Go.RowKit Go Go.Proofs.YtpbhepdgamoiaaaW.PrintWords Go.Proofs.YtpbhepdgamoiaaaW.PrintLast Go.Proofs.YtpbhepdgamoiaaaW.PrintMore Go.Proofs.Ytpbhepdgamoiaaa.Ml Go.Proofs.Ytpbhepdgamoiaaa.Mn Go.Proofs.Ytpbhepdgamoiaaa.Nd Go.Proofs.Ytpbhepdgamoiaaa.Pa Go.Proofs.Ytpbhepdgamoiaaa.Pb Go.Proofs.Ytpbhepdgamoiaaa.Rf Go.Proofs.Ytpbhepdgamoiaaa.Er Go.Proofs.Ytpbhepdgamoiaaa.Ek Go.Proofs.Ytpbhepdgamoiaaa.E Go.Proofs.Ytpbhepdgamoiaaa.Pe Go.Proofs.Ytpbhepdgamoiaaa.Pf Go.Proofs.Ytpbhepdgamoiaaa.Pg Go.Proofs.Ytpbhepdgamoiaaa.Qr Go.Proofs.Ytpbhepdgamoiaaa.Qn
set_option linter.unusedVariables false
set_option linter.unusedSimpArgs false
theorem RV.int {b : Bool} {x y : List Int} {z : Int} {n : Nat} (h : RV b x y (qq z 1) n) (hy : dv 1000000000 y = 1) : sg b (dv 1000000000 x) = z := by
 have e := h.eq
 rw [hy, qq_eq (by decide) (by decide)] at e
 omega
structure RZ (b : Bool) (x y : List Int) (z : Int) (n : Nat) : Prop where
 nx : Nn x
 ny : Nn y
 y1 : dv 1000000000 y = 1
 eq : sg b (dv 1000000000 x) = z
 lx : x.length ≤ n
 ly : y.length ≤ n
end Go.Proofs.Ytpbhepdgamoiaaa.Qo
namespace Go.Proofs.Ytpbhepdgamoiaaa.Qw
open Go.RowKit Go Go.Proofs.YtpbhepdgamoiaaaW.PrintWords Go.Proofs.YtpbhepdgamoiaaaW.PrintLast Go.Proofs.YtpbhepdgamoiaaaW.PrintMore Go.Proofs.Ytpbhepdgamoiaaa.Ml Go.Proofs.Ytpbhepdgamoiaaa.Mn Go.Proofs.Ytpbhepdgamoiaaa.Nd Go.Proofs.Ytpbhepdgamoiaaa.Pa Go.Proofs.Ytpbhepdgamoiaaa.Pb Go.Proofs.Ytpbhepdgamoiaaa.Pc Go.Proofs.Ytpbhepdgamoiaaa.Rf Go.Proofs.Ytpbhepdgamoiaaa.Er Go.Proofs.Ytpbhepdgamoiaaa.Ek Go.Proofs.Ytpbhepdgamoiaaa.E Go.Proofs.Ytpbhepdgamoiaaa.Pe Go.Proofs.Ytpbhepdgamoiaaa.Pf Go.Proofs.Ytpbhepdgamoiaaa.Qr Go.Proofs.Ytpbhepdgamoiaaa.Qn Go.Proofs.Ytpbhepdgamoiaaa.Ew
set_option linter.unusedVariables false
set_option linter.unusedSimpArgs false
end Go.Proofs.Ytpbhepdgamoiaaa.Qw
namespace Go.Proofs.Ytpbhepdgamoiaaa.Qt
open Go.RowKit Go Go.Proofs.YtpbhepdgamoiaaaW.PrintWords Go.Proofs.YtpbhepdgamoiaaaW.PrintLast Go.Proofs.YtpbhepdgamoiaaaW.PrintMore Go.Proofs.Ytpbhepdgamoiaaa.Ml Go.Proofs.Ytpbhepdgamoiaaa.Mn Go.Proofs.Ytpbhepdgamoiaaa.Nd Go.Proofs.Ytpbhepdgamoiaaa.Pa Go.Proofs.Ytpbhepdgamoiaaa.Pb Go.Proofs.Ytpbhepdgamoiaaa.Pc Go.Proofs.Ytpbhepdgamoiaaa.Rf Go.Proofs.Ytpbhepdgamoiaaa.Er Go.Proofs.Ytpbhepdgamoiaaa.Ek Go.Proofs.Ytpbhepdgamoiaaa.Et Go.Proofs.Ytpbhepdgamoiaaa.E Go.Proofs.Ytpbhepdgamoiaaa.Pe Go.Proofs.Ytpbhepdgamoiaaa.Pf Go.Proofs.Ytpbhepdgamoiaaa.Qr Go.Proofs.Ytpbhepdgamoiaaa.Qn Go.Proofs.Ytpbhepdgamoiaaa.Qw
set_option linter.unusedVariables false
set_option linter.unusedSimpArgs false
theorem time_l {b : Bool} {x y : List Int} (r : Int × Int × Int) (hfin : ∀ u, Nn u → u.length ≤ 1000 → 0 < dv 1000000000 u → dv 1000000000 u = (Int.gcd (dv 1000000000 x) (dv 1000000000 y) : Nat) → Ev (fun k => dioramaref02_Time.l0 k u [] b x y) r) :
  ∀ (m : Nat) (u v : List Int), Nn u → Nn v → u.length ≤ 1000 → v.length ≤ 1000 → (0 < dv 1000000000 u ∨ 0 < dv 1000000000 v) → Int.gcd (dv 1000000000 u) (dv 1000000000 v) = Int.gcd (dv 1000000000 x) (dv 1000000000 y) → (dv 1000000000 v).toNat ≤ m → Ev (fun k => dioramaref02_Time.l0 k u v b x y) r := by
 have zero : ∀ (u v : List Int), Nn u → Nn v → u.length ≤ 1000 → (0 < dv 1000000000 u ∨ 0 < dv 1000000000 v) → Int.gcd (dv 1000000000 u) (dv 1000000000 v) = Int.gcd (dv 1000000000 x) (dv 1000000000 y) → dv 1000000000 v = 0 → Ev (fun k => dioramaref02_Time.l0 k u v b x y) r := by
  intro u v hu hv lu hp hg h0
  obtain rfl := (dv_eq_zero (by decide) hv).1 h0
  have hz : dv 1000000000 [] = 0 := rfl
  rw [hz] at hg hp
  have hpu : 0 < dv 1000000000 u := by omega
  refine hfin u hu lu hpu ?_
  rw [← hg, Int.gcd_zero_right]
  omega
 intro m
 induction m with
 | zero =>
  intro u v hu hv lu lv hp hg hm
  have : 0 ≤ dv 1000000000 v := dv_nonneg (by decide) hv.dg
  exact zero u v hu hv lu hp hg (by omega)
 | succ m ih =>
  intro u v hu hv lu lv hp hg hm
  have hv0 : 0 ≤ dv 1000000000 v := dv_nonneg (by decide) hv.dg
  by_cases h0 : dv 1000000000 v = 0
  ·exact zero u v hu hv lu hp hg h0
  ·obtain ⟨r1, r2, he, n1, n2, e1, e2, l1, l2⟩ := over_f u v hu hv (by omega) (by omega) (by omega)
   have hr0 : 0 ≤ dv 1000000000 r2 := dv_nonneg (by decide) n2.dg
   have hl : (v.length : Int) > 0 := by
    cases v with
    | nil => exact absurd rfl h0
    | cons a t => simp
   refine Ev.step (fun k => by rw [dioramaref02_Time.l0]) (Ev.congr (fun k => if_pos hl) (Ev.bind he ?_))
   exact ih v r2 hv n2 lv (by omega) (.inl (by omega)) ((Ra.gcd_step e1).trans hg) (by omega)
theorem time_f {b : Bool} {x y : List Int} {q : Rat} {n : Nat} (h : RV b x y q n) (hn : n ≤ 1000) : Ev (fun k => dioramaref02_Time.f k b x y) ((tmV q).1.1, (tmV q).1.2, (tmV q).2) := by
 have lx := h.lx
 have ly := h.ly
 have hx0 := h.x0
 have hy0 := h.pos
 by_cases hx : (x.length : Int) = 0
 ·have hxn : x = [] := by cases x with | nil => rfl | cons a t => simp at hx; omega
  have hq : q = 0 := by
   rw [h.eq, hxn]
   unfold qq
   cases b <;> simp [sg, dv]
  refine Ev.congr (f := fun _ => some (0, 1, 0)) (fun k => if_pos hx) ?_
  rw [hq]
  exact Ev.now _
 ·have hz := dv_eq_zero (by decide) h.nx
  have hX : dv 1000000000 x ≠ 0 := fun e => by rw [hz.1 e] at hx; exact hx rfl
  have hG : (Int.gcd (sg b (dv 1000000000 x)) (dv 1000000000 y) : Nat) = Int.gcd (dv 1000000000 x) (dv 1000000000 y) := by
   cases b <;> simp [sg, Int.neg_gcd]
  obtain ⟨s1, s2⟩ := Ra.sg_quo (na := b) (nb := false) (a := sg b (dv 1000000000 x)) (b := dv 1000000000 y) (A := dv 1000000000 x) (B := dv 1000000000 y) (G := (Int.gcd (sg b (dv 1000000000 x)) (dv 1000000000 y) : Nat)) rfl (by simp [sg]) hx0 hy0 rfl
  obtain ⟨t1, t2⟩ := rat_low (a := sg b (dv 1000000000 x)) (b := dv 1000000000 y) (by omega)
  rw [t1, ← h.eq] at s1
  rw [t2, ← h.eq] at s2
  have hbb : (!(b == false)) = b := by cases b <;> rfl
  rw [hbb, hG] at s1
  rw [hG] at s2
  refine Ev.congr (fun k => if_neg hx) ?_
  refine time_l _ ?_ _ x y h.nx h.ny (by omega) (by omega) (.inr hy0) rfl (Nat.le_refl _)
  intro u hu lu hup hug
  rw [← hug] at s1 s2
  have ex := Int.mul_ediv_add_emod (dv 1000000000 x) (dv 1000000000 u)
  obtain ⟨p1, p2, pe, pn1, pn2, pe1, pe2, pl1, pl2⟩ := over_f x u h.nx hu (by omega) (by omega) hup
  obtain ⟨o1, o2, oe, on1, on2, oe1, oe2, ol1, ol2⟩ := over_f y u h.ny hu (by omega) (by omega) hup
  have p0 : 0 ≤ dv 1000000000 p2 := dv_nonneg (by decide) pn2.dg
  have o0 : 0 ≤ dv 1000000000 o2 := dv_nonneg (by decide) on2.dg
  have hp := (Int.ediv_emod_unique (a := dv 1000000000 x) (b := dv 1000000000 u) (q := dv 1000000000 p1) (r := dv 1000000000 p2) hup).2 ⟨by rw [pe1, Int.add_comm, Int.mul_comm], p0, pe2⟩
  have ho := (Int.ediv_emod_unique (a := dv 1000000000 y) (b := dv 1000000000 u) (q := dv 1000000000 o1) (r := dv 1000000000 o2) hup).2 ⟨by rw [oe1, Int.add_comm, Int.mul_comm], o0, oe2⟩
  rw [hp.1] at s1
  rw [ho.1] at s2
  have q0 : 0 ≤ dv 1000000000 p1 := dv_nonneg (by decide) pn1.dg
  have hden : 1 ≤ (q.den : Int) := by have := q.den_pos; omega
  have sm1 := small_f p1 1152921504606846976 pn1 (by omega) (by decide) (by decide)
  have sm2 := small_f o1 1152921504606846976 on1 (by omega) (by decide) (by decide)
  have bad : ¬ (dv 1000000000 p1 ≤ 1152921504606846976 ∧ dv 1000000000 o1 ≤ 1152921504606846976) → tmV q = ((0, 0), 2) := by
   intro hh
   unfold tmV
   refine if_neg fun hv => hh ?_
   unfold Ea.valid at hv
   simp only [Bool.and_eq_true, decide_eq_true_eq] at hv
   rw [← s1, ← s2] at hv
   cases b <;> simp [sg] at hv <;> omega
  refine Ev.step (fun k => by rw [dioramaref02_Time.l0]) (Ev.congr (fun k => if_neg (show ¬ ((([] : List Int).length : Int) > 0) by simp)) (Ev.bind pe (Ev.bind oe (Ev.bind sm1 (Ev.bind sm2 ?_)))))
  by_cases h1 : 1152921504606846976 < dv 1000000000 p1
  ·rw [if_pos h1, bad (by omega)]
   refine Ev.congr (fun k => if_neg (show ¬ (false = true) by decide)) (Ev.step (fun k => by rw [dioramaref02_Time.j1]) (Ev.congr (fun k => if_pos rfl) (Ev.now _)))
  ·rw [if_neg h1]
   refine Ev.congr (fun k => if_pos rfl) ?_
   by_cases h2 : 1152921504606846976 < dv 1000000000 o1
   ·rw [if_pos h2, bad (by omega)]
    exact Ev.step (fun k => by rw [dioramaref02_Time.j1]) (Ev.congr (fun k => if_pos (show (!false) = true from rfl)) (Ev.now _))
   ·rw [if_neg h2]
    have hv : tmV q = ((q.num, (q.den : Int)), 0) := by
     unfold tmV
     refine if_pos ?_
     unfold Ea.valid
     simp only [Bool.and_eq_true, decide_eq_true_eq]
     rw [← s1, ← s2]
     rw [← s2] at hden
     cases b <;> simp [sg] <;> omega
    rw [hv, ← s1, ← s2]
    refine Ev.step (fun k => by rw [dioramaref02_Time.j1]) (Ev.congr (fun k => if_neg (show ¬ (!true) = true by decide)) ?_)
    cases b with
    | false => exact Ev.congr (fun k => if_neg (by decide)) (Ev.now _)
    | true =>
     refine Ev.congr (fun k => if_pos rfl) ?_
     rw [w64 (by omega) (by omega)]
     exact Ev.now _
end Go.Proofs.Ytpbhepdgamoiaaa.Qt
namespace Go.Proofs.Ytpbhepdgamoiaaa.Qm
open Go.RowKit Go Go.Proofs.YtpbhepdgamoiaaaW.PrintWords Go.Proofs.YtpbhepdgamoiaaaW.PrintLast Go.Proofs.YtpbhepdgamoiaaaW.PrintMore Go.Proofs.Ytpbhepdgamoiaaa.Ml Go.Proofs.Ytpbhepdgamoiaaa.Mn Go.Proofs.Ytpbhepdgamoiaaa.Nd Go.Proofs.Ytpbhepdgamoiaaa.Pa Go.Proofs.Ytpbhepdgamoiaaa.Pb Go.Proofs.Ytpbhepdgamoiaaa.Pc Go.Proofs.Ytpbhepdgamoiaaa.Rf Go.Proofs.Ytpbhepdgamoiaaa.Er Go.Proofs.Ytpbhepdgamoiaaa.Ek Go.Proofs.Ytpbhepdgamoiaaa.Et Go.Proofs.Ytpbhepdgamoiaaa.E Go.Proofs.Ytpbhepdgamoiaaa.Pe Go.Proofs.Ytpbhepdgamoiaaa.Pf Go.Proofs.Ytpbhepdgamoiaaa.Qr Go.Proofs.Ytpbhepdgamoiaaa.Qn Go.Proofs.Ytpbhepdgamoiaaa.Qw Go.Proofs.Ytpbhepdgamoiaaa.Qt
set_option linter.unusedVariables false
set_option linter.unusedSimpArgs false
def RM (w : World) (v : Value) (q : Rat) (n : Nat) : Prop := ∃ (b : Bool) (A1 : Option Addr) (c1 : Nat) (l1 : List Int) (A2 : Option Addr) (c2 : Nat) (l2 : List Int), v = .agg #[.bool b, .slice A1 l1.length c1, .slice A2 l2.length c2] ∧ Kd.V (Kd.int .i64) 3 w 0 (fun _ => True) (.slice A1 l1.length c1) l1 ∧ Kd.V (Kd.int .i64) 3 w 0 (fun _ => True) (.slice A2 l2.length c2) l2 ∧ RV b l1 l2 q n
theorem RM.below {w w' : World} {v : Value} {q : Rat} {n : Nat} (h : RM w v q n) (hb : Below w.heap.size w w') : RM w' v q n := by
 obtain ⟨b, A1, c1, l1, A2, c2, l2, rfl, h1, h2, hv⟩ := h
 exact ⟨b, A1, c1, l1, A2, c2, l2, rfl, Kd.V_below h1 hb, Kd.V_below h2 hb, hv⟩
def RP (w : World) (q : Rat) (n : Nat) (e : Ending) (w' : World) : Prop := ∃ v, e = .returned v ∧ Below w.heap.size w w' ∧ RM w' v q n
theorem RM.of {w : World} {B : Nat} {o1 o2 : Nat → Prop} {b : Bool} {v1 v2 : Value} {x y : List Int} {q : Rat} {n : Nat} (h1 : Kd.R (Kd.int .i64) 3 w B o1 v1 x) (h2 : Kd.R (Kd.int .i64) 3 w B o2 v2 y) (hv : RV b x y q n) : RM w (.agg #[.bool b, v1, v2]) q n := by
 obtain ⟨A1, c1, rfl⟩ := Kd.R_slice h1
 obtain ⟨A2, c2, rfl⟩ := Kd.R_slice h2
 exact ⟨b, A1, c1, x, A2, c2, y, rfl, Kd.V_mono (Kd.R_V h1) (fun _ _ => trivial), Kd.V_mono (Kd.R_V h2) (fun _ _ => trivial), hv⟩
theorem ratioM (n d : Int) (w : World) (hn : -9223372036854775807 ≤ n) (hn1 : n ≤ 9223372036854775807) (hd : 0 < d) (hd1 : d ≤ 9223372036854775807) :
  Calls Try.prog 68 #[.int .i64 n, .int .i64 d] w (RP w (qq n d) 3) := by
 obtain ⟨b, x, y, he, hv⟩ := ratio_f n d hn hn1 hd hd1
 obtain ⟨k, hk⟩ := he.rounds
 refine (dioramaref10_ratio.calls k n d b x y w hk).mono ?_
 rintro e w' ⟨v1, v2, rfl, h1, h2, hb⟩
 exact ⟨_, rfl, hb, RM.of h1 h2 hv⟩
theorem plusM (u v : Value) (p q : Rat) (n m : Nat) (w : World) (h1 : RM w u p n) (h2 : RM w v q m) (hl : n + m + 2 ≤ 1000000) :
  Calls Try.prog 69 #[u, v] w (RP w (p + q) (n + m + 1)) := by
 obtain ⟨b1, A1, c1, l1, A2, c2, l2, rfl, k1, k2, g1⟩ := h1
 obtain ⟨b3, A3, c3, l3, A4, c4, l4, rfl, k3, k4, g2⟩ := h2
 obtain ⟨b, x, y, he, hv⟩ := plusR_f g1 g2 hl
 obtain ⟨k, hk⟩ := he.rounds
 obtain ⟨-, e1, r1⟩ := Kd.V_reads' k1
 obtain ⟨-, e2, r2⟩ := Kd.V_reads' k2
 obtain ⟨-, e3, r3⟩ := Kd.V_reads' k3
 obtain ⟨-, e4, r4⟩ := Kd.V_reads' k4
 refine (dioramaref10_plus.calls k b1 A1 c1 l1 A2 c2 l2 b3 A3 c3 l3 A4 c4 l4 b x y w r1 e1 r2 e2 r3 e3 r4 e4 hk).mono ?_
 rintro e w' ⟨v1, v2, rfl, h1, h2, hb⟩
 exact ⟨_, rfl, hb, RM.of h1 h2 hv⟩
theorem lessM (u v : Value) (p q : Rat) (n m : Nat) (w : World) (h1 : RM w u p n) (h2 : RM w v q m) (hl : n + m + 2 ≤ 1000000) :
  Calls Try.prog 86 #[u, v] w (ValP w (.bool (decide (p < q)))) := by
 obtain ⟨b1, A1, c1, l1, A2, c2, l2, rfl, k1, k2, g1⟩ := h1
 obtain ⟨b3, A3, c3, l3, A4, c4, l4, rfl, k3, k4, g2⟩ := h2
 obtain ⟨k, hk⟩ := (lessR_f g1 g2 hl).rounds
 obtain ⟨-, e1, r1⟩ := Kd.V_reads' k1
 obtain ⟨-, e2, r2⟩ := Kd.V_reads' k2
 obtain ⟨-, e3, r3⟩ := Kd.V_reads' k3
 obtain ⟨-, e4, r4⟩ := Kd.V_reads' k4
 exact dioramaref02_Less.calls k b1 A1 c1 l1 A2 c2 l2 b3 A3 c3 l3 A4 c4 l4 _ w r1 e1 r2 e2 r3 e3 r4 e4 hk
theorem mediaM (d a n e ts : Int) (v : Value) (p : Rat) (N : Nat) (w : World) (hn : 0 ≤ n) (hn1 : n ≤ 1000000) (he : 1 ≤ e) (he1 : e ≤ 1000000) (hm : -9223372036854775807 ≤ a) (hm1 : a ≤ 9223372036854775807) (ht : 1 ≤ ts) (ht1 : ts ≤ 1000000) (h : RM w v p N) (hl : N ≤ 1000) :
  Calls Try.prog 88 #[.agg #[.int .i64 d, .int .i64 a, .int .i64 n, .int .i64 e], .int .i64 ts, v] w (RP w (qq a ts + p * qq n e) (N + 7)) := by
 obtain ⟨b1, A1, c1, l1, A2, c2, l2, rfl, k1, k2, g1⟩ := h
 obtain ⟨b, x, y, hf, hv⟩ := media_f d a n e ts hn hn1 he he1 hm hm1 ht ht1 g1 hl
 obtain ⟨k, hk⟩ := hf.rounds
 obtain ⟨-, e1, r1⟩ := Kd.V_reads' k1
 obtain ⟨-, e2, r2⟩ := Kd.V_reads' k2
 refine (dioramaref10_media.calls k d a n e ts b1 A1 c1 l1 A2 c2 l2 b x y w r1 e1 r2 e2 hk).mono ?_
 rintro e w' ⟨v1, v2, rfl, h1, h2, hb⟩
 exact ⟨_, rfl, hb, RM.of h1 h2 hv⟩
theorem timeM (v : Value) (q : Rat) (n : Nat) (w : World) (h : RM w v q n) (hl : n ≤ 1000) :
  Calls Try.prog 87 #[v] w (ValP w (tmR q)) := by
 obtain ⟨b1, A1, c1, l1, A2, c2, l2, rfl, k1, k2, g1⟩ := h
 obtain ⟨k, hk⟩ := (time_f g1 hl).rounds
 exact dioramaref02_Time.calls k b1 (fun _ => True) A1 c1 l1 (fun _ => True) A2 c2 l2 _ _ _ w (Kd.V_mono k1 (fun _ _ => trivial)) (Kd.V_mono k2 (fun _ _ => trivial)) hk
theorem ratOf_f (n d : Int) (hn : -9223372036854775807 ≤ n) (hn1 : n ≤ 9223372036854775807) (hd : 0 < d) (hd1 : d ≤ 9223372036854775807) : RE (fun k => dioramaref02_RatOf.f k n d) (qq n d) 3 := by
 obtain ⟨y, ey, ny, vy, ly⟩ := of_f d (by omega) hd1
 by_cases h : n < 0
 ·obtain ⟨x, ex, nx, vx, lx⟩ := of_f (-n) (by omega) (by omega)
  have hs : Ev (fun k => dioramaref02_size.f k n) x := by
   refine Ev.congr (fun k => if_pos h) ?_
   rw [w64 (by omega) (by omega)]
   exact Ev.bind ex (Ev.now _)
  refine ⟨decide (n < 0), x, y, Ev.congr (fun k => rfl) (Ev.bind hs (Ev.bind ey (Ev.now _))), ⟨nx, ny, by rw [vy]; exact hd, ?_, lx, ly⟩⟩
  rw [vx, vy, decide_eq_true h]
  simp [sg]
 ·obtain ⟨x, ex, nx, vx, lx⟩ := of_f n (by omega) hn1
  have hs : Ev (fun k => dioramaref02_size.f k n) x := Ev.congr (fun k => if_neg h) (Ev.bind ex (Ev.now _))
  refine ⟨decide (n < 0), x, y, Ev.congr (fun k => rfl) (Ev.bind hs (Ev.bind ey (Ev.now _))), ⟨nx, ny, by rw [vy]; exact hd, ?_, lx, ly⟩⟩
  rw [vx, vy, decide_eq_false h]
  simp [sg]
theorem ratOfM (n d : Int) (w : World) (hn : -9223372036854775807 ≤ n) (hn1 : n ≤ 9223372036854775807) (hd : 0 < d) (hd1 : d ≤ 9223372036854775807) :
  Calls Try.prog 85 #[.agg #[.int .i64 n, .int .i64 d]] w (RP w (qq n d) 3) := by
 obtain ⟨b, x, y, he, hv⟩ := ratOf_f n d hn hn1 hd hd1
 obtain ⟨k, hk⟩ := he.rounds
 refine (dioramaref02_RatOf.calls k n d b x y w hk).mono ?_
 rintro e w' ⟨v1, v2, rfl, h1, h2, hb⟩
 exact ⟨_, rfl, hb, RM.of h1 h2 hv⟩
def ratO (b : Bool) (u v : Value) : Obj := .cells #[.bool b, u, v] 95 (0, 0)
theorem rat_cells {w : World} {g : Nat} {b : Bool} {u v : Value} (h : w.heap[g]? = some (ratO b u v)) : w.cell? ⟨g, 0, none⟩ = some (.bool b) ∧ w.cell? ⟨g, 1, none⟩ = some u ∧ w.cell? ⟨g, 2, none⟩ = some v ∧ w.frozen? ⟨g, 0, none⟩ = false ∧ w.frozen? ⟨g, 1, none⟩ = false ∧ w.frozen? ⟨g, 2, none⟩ = false :=
 ⟨(blk_cell h 0).trans rfl, (blk_cell h 1).trans rfl, (blk_cell h 2).trans rfl, blk_frozen h 0, blk_frozen h 1, blk_frozen h 2⟩
set_option maxHeartbeats 4000000 in
set_option maxRecDepth 100000 in
theorem less_w (b : Bool) (A1 A2 : Option Addr) (k1 c1 k2 c2 : Nat) (w : World) :
  Calls Try.prog 89 #[.agg #[.bool b, .slice A1 k1 c1, .slice A2 k2 c2]] w (fun e w' => e = .returned (.agg #[.bool (!b), .slice A1 k1 c1, .slice A2 k2 c2]) ∧ Below w.heap.size w w') := by
 have hu := Try.underlying95
 have e1 : (w.alloc (ratO b (.slice A1 k1 c1) (.slice A2 k2 c2))).heap.size = w.heap.size + 1 := by simp
 have k3 := blk_new (w.alloc (ratO b (.slice A1 k1 c1) (.slice A2 k2 c2))) (ratO (!b) (.slice A1 k1 c1) (.slice A2 k2 c2))
 rw [e1] at k3
 have HB := Aside0.mk k3
 clear k3 e1
 go_enter Try.func89, Try.ntmps89
 go_wp2_with fail
 refine bodyPost_ret (results_single rfl (.cell (w.heap.size + 1) 95 #[.bool (!b), .slice A1 k1 c1, .slice A2 k2 c2] (0, 0) _ rfl HB.out Try.underlying95 rfl (by kernel_rfl) .nil)) rfl ?_
 exact ⟨rfl, below_alloc (below_alloc (Below.refl _ w) _) _⟩
theorem negM (v : Value) (q : Rat) (n : Nat) (w : World) (h : RM w v q n) : Calls Try.prog 89 #[v] w (RP w (-q) n) := by
 obtain ⟨b1, A1, c1, l1, A2, c2, l2, rfl, k1, k2, g1⟩ := h
 refine (less_w b1 A1 A2 l1.length c1 l2.length c2 w).mono ?_
 rintro e w' ⟨rfl, hb⟩
 exact ⟨_, rfl, hb, !b1, A1, c1, l1, A2, c2, l2, rfl, Kd.V_below k1 hb, Kd.V_below k2 hb, g1.neg⟩
end Go.Proofs.Ytpbhepdgamoiaaa.Qm
namespace Go.Proofs.Ytpbhepdgamoiaaa.Qp
open Go.RowKit Go Go.Proofs.YtpbhepdgamoiaaaW.PrintWords Go.Proofs.YtpbhepdgamoiaaaW.PrintLast Go.Proofs.YtpbhepdgamoiaaaW.PrintMore Go.Proofs.Ytpbhepdgamoiaaa.Ml Go.Proofs.Ytpbhepdgamoiaaa.Mn Go.Proofs.Ytpbhepdgamoiaaa.Nd Go.Proofs.Ytpbhepdgamoiaaa.Pa Go.Proofs.Ytpbhepdgamoiaaa.Pb Go.Proofs.Ytpbhepdgamoiaaa.Rf Go.Proofs.Ytpbhepdgamoiaaa.Er Go.Proofs.Ytpbhepdgamoiaaa.Ek Go.Proofs.Ytpbhepdgamoiaaa.E Go.Proofs.Ytpbhepdgamoiaaa.Pe Go.Proofs.Ytpbhepdgamoiaaa.Pf Go.Proofs.Ytpbhepdgamoiaaa.Pg Go.Proofs.Ytpbhepdgamoiaaa.Qr Go.Proofs.Ytpbhepdgamoiaaa.Qn Go.Proofs.Ytpbhepdgamoiaaa.Qo
set_option linter.unusedVariables false
set_option linter.unusedSimpArgs false
theorem bad_f (x : Ed) : dioramaref10_badEdit.f x.f0 x.f1 x.f2 x.f3 = some (!decide (Vd x)) := by
 unfold dioramaref10_badEdit.f
 rw [isEmpty_f]
 by_cases h1 : x.f0 < 1
 ·rw [if_pos h1, decide_eq_false (fun h => by have := h.d0; omega)]; rfl
 rw [if_neg h1]
 by_cases h2 : x.f0 > 1099511627776
 ·rw [if_pos h2, decide_eq_false (fun h => by have := h.d1; omega)]; rfl
 rw [if_neg h2]
 by_cases h3 : x.f1 < -1
 ·rw [if_pos h3, decide_eq_false (fun h => by have := h.m0; omega)]; rfl
 rw [if_neg h3]
 by_cases h4 : x.f1 > 1099511627776
 ·rw [if_pos h4, decide_eq_false (fun h => by have := h.m1; omega)]; rfl
 rw [if_neg h4]
 by_cases h5 : x.f2 < 0
 ·rw [if_pos h5, decide_eq_false (fun h => by have := h.n0; omega)]; rfl
 rw [if_neg h5]
 by_cases h6 : x.f2 > 1000
 ·rw [if_pos h6, decide_eq_false (fun h => by have := h.n1; omega)]; rfl
 rw [if_neg h6]
 by_cases h7 : x.f3 < 1
 ·rw [if_pos h7, decide_eq_false (fun h => by have := h.e0; omega)]; rfl
 rw [if_neg h7]
 by_cases h8 : x.f3 > 1000
 ·rw [if_pos h8, decide_eq_false (fun h => by have := h.e1; omega)]; rfl
 rw [if_neg h8]
 simp only [Option.bind_some]
 by_cases h9 : x.f1 = -1
 ·rw [if_pos (decide_eq_true h9)]
  by_cases h10 : x.f2 = 1
  ·rw [if_pos h10]
   by_cases h11 : x.f3 = 1
   ·rw [decide_eq_true (show Vd x from ⟨by omega, by omega, by omega, by omega, by omega, by omega, by omega, by omega, fun _ => ⟨h10, h11⟩⟩), h11]
    rfl
   ·rw [decide_eq_false (fun h => h11 (h.em (by omega)).2)]
    simp [h11]
  ·rw [if_neg h10, decide_eq_false (fun h => h10 (h.em (by omega)).1)]
   rfl
 ·rw [if_neg (by simpa using h9), decide_eq_true (show Vd x from ⟨by omega, by omega, by omega, by omega, by omega, by omega, by omega, by omega, fun h => by omega⟩)]
  rfl
theorem rcheck_l (l : List Ed) (hl : l.length ≤ 20) (rest : List Ed) : ∀ pre, l = pre ++ rest → (∀ x ∈ pre, Vd x) → Ev (fun k => dioramaref10_Check.l0 k l (sumD pre) (pre.length : Int)) (if (∀ x ∈ rest, Vd x) ∧ sumD l ≤ 1099511627776 then 0 else 33) := by
 induction rest with
 | nil =>
  intro pre he hp
  subst he
  refine Ev.step (f := fun _ => some (if (∀ x ∈ ([] : List Ed), Vd x) ∧ sumD (pre ++ []) ≤ 1099511627776 then 0 else 33)) (fun k => ?_) (Ev.now _)
  simp only [dioramaref10_Check.l0, List.append_nil]
  rw [if_neg (by omega)]
  by_cases h : sumD pre > 1099511627776
  ·rw [if_pos h, if_neg (by intro hh; omega)]
  ·rw [if_neg h, if_pos ⟨by simp, by omega⟩]
 | cons x t ih =>
  intro pre he hp
  have hlen : l.length = pre.length + (t.length + 1) := by rw [he]; simp
  have hx : rd_T77 l (pre.length : Int) = x := by rw [he]; exact rd_at pre x t
  by_cases hV : Vd x
  ·have hs : sumD (pre ++ [x]) = sumD pre + x.f0 := by rw [sumD_app]; simp [sumD]
   have hb := sumD_le hp
   have h0 := sumD_nonneg hp
   have hr := ih (pre ++ [x]) (by rw [he]; simp) (by intro y hy; simp only [List.mem_append, List.mem_singleton] at hy; rcases hy with hy | rfl; exact hp y hy; exact hV)
   have e : ((∀ y ∈ x :: t, Vd y) ∧ sumD l ≤ 1099511627776) = ((∀ y ∈ t, Vd y) ∧ sumD l ≤ 1099511627776) := by
    apply propext
    constructor
    ·rintro ⟨h1, h2⟩; exact ⟨fun y hy => h1 y (by simp [hy]), h2⟩
    ·rintro ⟨h1, h2⟩; exact ⟨fun y hy => by simp only [List.mem_cons] at hy; rcases hy with rfl | hy; exact hV; exact h1 y hy, h2⟩
   simp only [e]
   refine Ev.step (fun k => ?_) hr
   simp only [dioramaref10_Check.l0]
   rw [if_pos (by omega), if_pos (by omega), hx, bad_f, decide_eq_true hV]
   simp only [Option.bind_some, Bool.not_true, if_neg (show ¬ (false = true) by decide)]
   rw [w64 (by have := hV.d0; omega) (by have := hV.d1; omega), w64 (by omega) (by omega), hs]
   simp
  ·refine Ev.step (f := fun _ => some 33) (fun k => ?_) ?_
   ·simp only [dioramaref10_Check.l0]
    rw [if_pos (by omega), if_pos (by omega), hx, bad_f, decide_eq_false hV]
    simp
   ·rw [if_neg (fun h => hV (h.1 x (by simp)))]
    exact Ev.now _
theorem rscale_f (n : Int) : dioramaref10_isScale.f n = some (decide (1 ≤ n ∧ n ≤ 1000000)) := by
 unfold dioramaref10_isScale.f
 by_cases h : n ≥ 1
 ·rw [if_pos h]; simp; omega
 ·rw [if_neg h]; simp; omega
theorem rcheck_f (l : List Ed) (ms ts : Int) : Ev (fun k => dioramaref10_Check.f k l ms ts) (chk l ms ts) := by
 have h0 : ∀ b, Ev (fun k => dioramaref10_Check.j0 k l b) (if b = true then 1 else if 20 < l.length then 2 else if (∀ x ∈ l, Vd x) ∧ sumD l ≤ 1099511627776 then 0 else 33) := by
  intro b
  by_cases hb : b = true
  ·rw [if_pos hb]
   refine Ev.step (f := fun _ => some 1) (fun k => ?_) (Ev.now _)
   simp only [dioramaref10_Check.j0]
   rw [if_pos hb]
  ·rw [if_neg hb]
   by_cases hl : 20 < l.length
   ·rw [if_pos hl]
    refine Ev.step (f := fun _ => some 2) (fun k => ?_) (Ev.now _)
    simp only [dioramaref10_Check.j0]
    rw [if_neg hb, if_pos (by omega)]
   ·rw [if_neg hl]
    refine Ev.step (fun k => ?_) (rcheck_l l (by omega) l [] rfl (by simp))
    simp only [dioramaref10_Check.j0]
    rw [if_neg hb, if_neg (by omega)]
    rfl
 unfold chk
 by_cases h1 : 1 ≤ ms ∧ ms ≤ 1000000
 ·by_cases h2 : 1 ≤ ts ∧ ts ≤ 1000000
  ·rw [if_neg (not_not_intro ⟨h1.1, h1.2, h2.1, h2.2⟩)]
   refine Ev.congr (fun k => ?_) (h0 false)
   unfold dioramaref10_Check.f
   rw [rscale_f, rscale_f, decide_eq_true h1, decide_eq_true h2]
   rfl
  ·rw [if_pos (fun h => h2 ⟨h.t0, h.t1⟩)]
   refine Ev.congr (fun k => ?_) (h0 true)
   unfold dioramaref10_Check.f
   rw [rscale_f, rscale_f, decide_eq_true h1, decide_eq_false h2]
   rfl
 ·rw [if_pos (fun h => h1 ⟨h.m0, h.m1⟩)]
  refine Ev.congr (fun k => ?_) (h0 true)
  unfold dioramaref10_Check.f
  rw [rscale_f, decide_eq_false h1]
  rfl
end Go.Proofs.Ytpbhepdgamoiaaa.Qp
namespace Go.Proofs.Ytpbhepdgamoiaaa.Rm
open Go.RowKit Go Go.Proofs.YtpbhepdgamoiaaaW.PrintWords Go.Proofs.YtpbhepdgamoiaaaW.PrintLast Go.Proofs.YtpbhepdgamoiaaaW.PrintMore Go.Proofs.Ytpbhepdgamoiaaa.Ml Go.Proofs.Ytpbhepdgamoiaaa.Mn Go.Proofs.Ytpbhepdgamoiaaa.Nd Go.Proofs.Ytpbhepdgamoiaaa.Z Go.Proofs.Ytpbhepdgamoiaaa.Rf Go.Proofs.Ytpbhepdgamoiaaa.Er Go.Proofs.Ytpbhepdgamoiaaa.Ek Go.Proofs.Ytpbhepdgamoiaaa.Et Go.Proofs.Ytpbhepdgamoiaaa.E Go.Proofs.Ytpbhepdgamoiaaa.Pe Go.Proofs.Ytpbhepdgamoiaaa.Pf Go.Proofs.Ytpbhepdgamoiaaa.Qr Go.Proofs.Ytpbhepdgamoiaaa.Qn Go.Proofs.Ytpbhepdgamoiaaa.Qp Go.Proofs.Ytpbhepdgamoiaaa.Qw Go.Proofs.Ytpbhepdgamoiaaa.Qt Go.Proofs.Ytpbhepdgamoiaaa.Qm
set_option linter.unusedVariables false
set_option linter.unusedSimpArgs false
theorem rcheck_n (A : Option Addr) (c : Nat) (l : List Ed) (ms ts : Int) (w : World) (hr : Kd.C k77 w A l.length l) (hc : l.length ≤ c) :
  Calls Try.prog 25 #[.slice A l.length c, .int .i64 ms, .int .i64 ts] w (ValP w (.int .i64 (chk l ms ts))) := by
 obtain ⟨k, hk⟩ := (rcheck_f l ms ts).rounds
 exact dioramaref10_Check.calls k A c l ms ts _ w hr hc hk
theorem rvalid_f (n d : Int) : dioramaref02_Valid.f n d = some (Ea.valid n d) := by
 unfold dioramaref02_Valid.f Ea.valid
 by_cases h1 : d ≥ 1
 ·rw [if_pos h1, decide_eq_true (show 1 ≤ d from h1)]
  by_cases h2 : d ≤ 1152921504606846976
  ·rw [if_pos h2, decide_eq_true h2]
   by_cases h3 : n ≥ -1152921504606846976
   ·rw [if_pos h3, decide_eq_true (show -1152921504606846976 ≤ n from h3)]
    rfl
   ·rw [if_neg h3, decide_eq_false (show ¬ -1152921504606846976 ≤ n from h3)]
    rfl
  ·rw [if_neg h2, decide_eq_false h2]
   rfl
 ·rw [if_neg h1, decide_eq_false (show ¬ 1 ≤ d from h1)]
  rfl
theorem rvalid_n (n d : Int) (w : World) : Calls Try.prog 35 #[.agg #[.int .i64 n, .int .i64 d]] w (ValP w (.bool (Ea.valid n d))) :=
 dioramaref02_Valid.calls n d _ w (rvalid_f n d)
theorem rempty_n (x : Ed) (w : World) : Calls Try.prog 74 #[.agg #[.int .i64 x.f0, .int .i64 x.f1, .int .i64 x.f2, .int .i64 x.f3]] w (ValP w (.bool (x.f1 == -1))) :=
 dioramaref10_isEmpty.calls x.f0 x.f1 x.f2 x.f3 _ w rfl
structure My (w W : World) (n d : Int) (gz gt : Nat) (v : Bool × Value × Value) (q : Rat) : Prop where
 a : W.heap[w.heap.size]? = some (timeObj n d)
 r : W.heap[w.heap.size + 1]? = some (timeObj 0 0)
 z : W.heap[gz]? = some (timeObj 0 1)
 t : W.heap[gt]? = some (ratO v.1 v.2.1 v.2.2)
 m : RM W (.agg #[.bool v.1, v.2.1, v.2.2]) q 3
 below : Below w.heap.size w W
theorem My.step {w W W2 : World} {n d : Int} {gz gt : Nat} {v : Bool × Value × Value} {q : Rat} (h : My w W n d gz gt v q) (hb : Below W.heap.size W W2) : My w W2 n d gz gt v q :=
 ⟨blk_below h.a hb, blk_below h.r hb, blk_below h.z hb, blk_below h.t hb, h.m.below hb, h.below.trans (hb.mono h.below.size)⟩
structure My0 (w W : World) (n d : Int) : Prop where
 a : W.heap[w.heap.size]? = some (timeObj n d)
 r : W.heap[w.heap.size + 1]? = some (timeObj 0 0)
 below : Below w.heap.size w W
theorem My0.step {w W W2 : World} {n d : Int} (h : My0 w W n d) (hb : Below W.heap.size W W2) : My0 w W2 n d := ⟨blk_below h.a hb, blk_below h.r hb, h.below.trans (hb.mono h.below.size)⟩
theorem My0.start (w : World) (n d : Int) : My0 w ((w.alloc (timeObj n d)).alloc (timeObj 0 0)) n d := by
 have e1 : (w.alloc (timeObj n d)).heap.size = w.heap.size + 1 := by simp
 have k2 := blk_new (w.alloc (timeObj n d)) (timeObj 0 0)
 rw [e1] at k2
 exact ⟨blk_alloc (blk_new w _) _, k2, below_alloc (below_alloc (Below.refl _ w) _) _⟩
theorem lessM_t (u v : Value) (p q : Rat) (n m : Nat) (w : World) (h1 : RM w u p n) (h2 : RM w v q m) (hl : n + m + 2 ≤ 1000000) (h : p < q) :
  Calls Try.prog 86 #[u, v] w (ValP w (.bool true)) := by
 have := lessM u v p q n m w h1 h2 hl
 rwa [decide_eq_true h] at this
theorem lessM_f (u v : Value) (p q : Rat) (n m : Nat) (w : World) (h1 : RM w u p n) (h2 : RM w v q m) (hl : n + m + 2 ≤ 1000000) (h : ¬ p < q) :
  Calls Try.prog 86 #[u, v] w (ValP w (.bool false)) := by
 have := lessM u v p q n m w h1 h2 hl
 rwa [decide_eq_false h] at this
structure My1 (w W : World) (n d : Int) (gz : Nat) : Prop where
 a : W.heap[w.heap.size]? = some (timeObj n d)
 r : W.heap[w.heap.size + 1]? = some (timeObj 0 0)
 z : W.heap[gz]? = some (timeObj 0 1)
 below : Below w.heap.size w W
theorem My1.step {w W W2 : World} {n d : Int} {gz : Nat} (h : My1 w W n d gz) (hb : Below W.heap.size W W2) : My1 w W2 n d gz := ⟨blk_below h.a hb, blk_below h.r hb, blk_below h.z hb, h.below.trans (hb.mono h.below.size)⟩
theorem My1.start {w W : World} {n d : Int} (h : My0 w W n d) : My1 w (W.alloc (timeObj 0 1)) n d W.heap.size :=
 ⟨blk_alloc h.a _, blk_alloc h.r _, blk_new W _, h.below.trans ((below_alloc (Below.refl W.heap.size W) _).mono h.below.size)⟩
theorem My.start {w W : World} {n d : Int} {gz : Nat} {b : Bool} {u v : Value} {q : Rat} (h : My1 w W n d gz) (hm : RM W (.agg #[.bool b, u, v]) q 3) : My w (W.alloc (ratO b u v)) n d gz W.heap.size (b, u, v) q :=
 ⟨blk_alloc h.a _, blk_alloc h.r _, blk_alloc h.z _, blk_new W _, hm.below (below_alloc (Below.refl _ W) _), h.below.trans ((below_alloc (Below.refl W.heap.size W) _).mono h.below.size)⟩
theorem My.cells {w W : World} {n d : Int} {gz gt : Nat} {b : Bool} {u v : Value} {q : Rat} (h : My w W n d gz gt (b, u, v) q) : W.cell? ⟨gt, 0, none⟩ = some (.bool b) ∧ W.cell? ⟨gt, 1, none⟩ = some u ∧ W.cell? ⟨gt, 2, none⟩ = some v := ⟨(rat_cells h.t).1, (rat_cells h.t).2.1, (rat_cells h.t).2.2.1⟩
theorem RM.form {w : World} {v : Value} {q : Rat} {n : Nat} (h : RM w v q n) : ∃ b A1 k1 c1 A2 k2 c2, v = .agg #[.bool b, .slice A1 k1 c1, .slice A2 k2 c2] := by
 obtain ⟨b, A1, c1, l1, A2, c2, l2, rfl, _⟩ := h
 exact ⟨_, _, _, _, _, _, _, rfl⟩
set_option maxHeartbeats 16000000 in
set_option maxRecDepth 100000 in
theorem rMedia_n (A0 : Option Addr) (c0 : Nat) (l0 : List Ed) (a1 : Int) (a2 : Int) (n d : Int) (w : World) (hr0 : Kd.C k77 w A0 l0.length l0) (hc0 : l0.length ≤ c0) :
  Calls Try.prog 33 #[.slice A0 l0.length c0, .int .i64 a1, .int .i64 a2, .agg #[.int .i64 n, .int .i64 d]] w (ValP w (medR (medV l0 a1 a2 n d))) := by
 have hu := Try.underlying77
 have hu2 := Try.underlying37
 have hu3 := Try.underlying95
 have HR := Aside0.mk (And.intro hr0 hc0)
 have HC := Aside0.mk (fun W (hb : Below w.heap.size w W) => rcheck_n A0 c0 l0 a1 a2 W (Kd.C_below hr0 hb) hc0)
 have HV := Aside0.mk (show medR (medV l0 a1 a2 n d) = if chk l0 a1 a2 = 0 then (if Ea.valid n d = true then medR (medL a1 a2 (qq n d) 0 l0) else .tuple #[.agg #[.int .i64 0, .int .i64 0], .bool false, .int .i64 4]) else .tuple #[.agg #[.int .i64 0, .int .i64 0], .bool false, .int .i64 (chk l0 a1 a2)] from by unfold medV; split; split <;> rfl; rfl)
 have HO := Aside0.mk (fun h0 : chk l0 a1 a2 = 0 => chk_ok.1 h0)
 generalize medR (medV l0 a1 a2 n d) = V at *
 generalize chk l0 a1 a2 = C at *
 clear hr0 hc0
 have hM := Aside0.mk (My0.start w n d)
 go_enter Try.func33, Try.ntmps33
 go_wp2_with fail
 generalize hW : World.alloc (World.alloc _ _) _ = W
 have HM := Aside0.mk (show My0 w W n d by rw [← hW]; exact hM.out)
 clear hW hM
 refine (HC.out W HM.out.below).mono ?_
 rintro e w2 ⟨rfl, hb2⟩
 have HM2 := Aside0.mk (HM.out.step hb2)
 clear hb2 HM HC
 by_cases hc : C = 0
 case neg =>
  have HV2 := Aside0.mk (show V = .tuple #[.agg #[.int .i64 0, .int .i64 0], .bool false, .int .i64 C] by rw [HV.out, if_neg hc])
  have hcb : (C == 0) = false := beq_eq_false_iff_ne.mpr hc
  have hr := blk_alloc HM2.out.r (.cells #[.int .i64 0, .int .i64 1] 37 (0, 0))
  obtain ⟨p0, p1, f0, f1⟩ := time_cells hr
  have HM3 := Aside0.mk (And.intro hr (HM2.out.below.trans ((below_alloc (Below.refl w2.heap.size w2) (.cells #[.int .i64 0, .int .i64 1] 37 (0, 0))).mono HM2.out.below.size)))
  clear HV HO hr
  go_wp2_with fail
  refine bodyPost_ret (results_ctt rfl _ _ (w.heap.size + 1) 37 #[.int .i64 0, .int .i64 0] (0, 0) _ rfl (blk_two HM3.out.1) Try.underlying37 rfl (by kernel_rfl)) rfl ?_
  exact ⟨by rw [HV2.out]; rfl, (HM3.out.2.setCell (by simp) _).setCell (by simp) _⟩
 subst hc
 have HV2 := Aside0.mk (show V = if Ea.valid n d = true then medR (medL a1 a2 (qq n d) 0 l0) else .tuple #[.agg #[.int .i64 0, .int .i64 0], .bool false, .int .i64 4] by rw [HV.out, if_pos rfl])
 have HCk := Aside0.mk (HO.out rfl)
 clear HV HO
 obtain ⟨p0, p1, f0, f1⟩ := time_cells HM2.out.a
 go_wp2_with fail
 refine (rvalid_n n d w2).mono ?_
 rintro e w3 ⟨rfl, hb3⟩
 have HM3 := Aside0.mk (HM2.out.step hb3)
 clear hb3 HM2 p0 p1 f0 f1
 cases hv : Ea.valid n d with
 | false =>
  have HV3 := Aside0.mk (show V = .tuple #[.agg #[.int .i64 0, .int .i64 0], .bool false, .int .i64 4] by rw [HV2.out, hv, if_neg (by decide)])
  have hr := blk_alloc HM3.out.r (.cells #[.int .i64 0, .int .i64 1] 37 (0, 0))
  obtain ⟨p0, p1, f0, f1⟩ := time_cells hr
  have HM4 := Aside0.mk (And.intro hr (HM3.out.below.trans ((below_alloc (Below.refl w3.heap.size w3) (.cells #[.int .i64 0, .int .i64 1] 37 (0, 0))).mono HM3.out.below.size)))
  clear HV2 hv hr
  go_wp2_with fail
  refine bodyPost_ret (results_ctt rfl _ _ (w.heap.size + 1) 37 #[.int .i64 0, .int .i64 0] (0, 0) _ rfl (blk_two HM4.out.1) Try.underlying37 rfl (by kernel_rfl)) rfl ?_
  exact ⟨by rw [HV3.out]; rfl, (HM4.out.2.setCell (by simp) _).setCell (by simp) _⟩
 | true =>
  have HV3 := Aside0.mk (show V = medR (medL a1 a2 (qq n d) 0 l0) by rw [HV2.out, hv, if_pos rfl])
  have HX := Aside0.mk (show (-1152921504606846976 ≤ n ∧ n ≤ 1152921504606846976) ∧ 1 ≤ d ∧ d ≤ 1152921504606846976 by unfold Ea.valid at hv; simp only [Bool.and_eq_true, decide_eq_true_eq] at hv; omega)
  have hm1 := My1.start HM3.out
  have ha := blk_alloc HM3.out.a (.cells #[.int .i64 0, .int .i64 1] 37 (0, 0))
  obtain ⟨p0, p1, f0, f1⟩ := time_cells ha
  have HM4 := Aside0.mk hm1
  clear HV2 hv hm1 ha
  go_wp2_with fail
  generalize hW4 : World.alloc w3 _ = W4
  have HM5 := Aside0.mk (show My1 w W4 n d w3.heap.size by rw [← hW4]; exact HM4.out)
  clear hW4 HM4 p0 p1 f0 f1
  refine (ratOfM n d W4 (by have := HX.out; omega) (by have := HX.out; omega) (by have := HX.out; omega) (by have := HX.out; omega)).mono ?_
  rintro e w5 ⟨v, rfl, hb5, hm5⟩
  obtain ⟨bb, Au, ku, cu, Ax, kx, cx, rfl⟩ := RM.form hm5
  have HM6 := Aside0.mk (My.start (HM5.out.step hb5) hm5)
  generalize hgz : w3.heap.size = gz at *
  clear hb5 hm5 HM5 HM3 HX
  generalize qq n d = q at *
  go_wp2_with fail
  generalize hW6 : World.alloc w5 _ = W6
  have HM7 := Aside0.mk (show My w W6 n d gz w5.heap.size (bb, .slice Au ku cu, .slice Ax kx cx) q by rw [← hW6]; exact HM6.out)
  clear hW6 HM6
  generalize w5.heap.size = gt at *
  go_loopg [14, 15] l0.length (fun kq v14 v15 w' => ∃ b i : Int, v14 = .int .i64 b ∧ v15 = .int .i64 i ∧ Aside0 (0 ≤ i ∧ i + kq = l0.length ∧ b = sumD (l0.take i.toNat)) ∧ Aside0 (V = medR (medL a1 a2 q b (l0.drop i.toNat))) ∧ Aside0 (My w w' n d gz gt (bb, .slice Au ku cu, .slice Ax kx cx) q))
  case atStart => exact ⟨0, 0, rfl, rfl, ⟨by simp, by simp, by simp [sumD]⟩, ⟨by rw [HV3.out]; simp⟩, ⟨HM7.out⟩⟩
  case round =>
   clear HV3 HM7
   obtain ⟨b, i, rfl, rfl, hi, hL, hM⟩ := hrel
   by_cases hlt : i < (l0.length : Int)
   ·have hlb : decide (i < (l0.length : Int)) = true := decide_eq_true hlt
    have p0 := hi.out.1
    have HA := Aside0.mk (At.of p0 hlt hi.out.2.2 HCk.out.2.2.1 HCk.out.2.2.2)
    obtain ⟨ad, hA, q0, q1, q2, q3⟩ := at_T77 (Kd.C_below HR.out.1 hM.out.below) i p0 hlt
    subst hA
    obtain ⟨k1, rfl⟩ : ∃ k, gk = k + 1 := ⟨gk - 1, by have := hi.out.2; omega⟩
    generalize rd_T77 l0 i = X at *
    have hwi : wrap64 (i + 1) = i + 1 := by
     have := HCk.out.2.1
     exact w64 (by omega) (by omega)
    have hwb : wrap64 (b + X.f0) = b + X.f0 := w64 (by have := HA.out.b0; have := HA.out.vd.d0; omega) (by have := HA.out.b1; omega)
    have HW := Aside0.mk (And.intro (And.intro hwi hwb) (show 0 ≤ i + 1 ∧ i + 1 + (k1 : Int) = l0.length by have := hi.out.2.1; omega))
    have HL := Aside0.mk (show V = medR (medL a1 a2 q b (X :: l0.drop (i + 1).toNat)) by rw [hL.out, HA.out.drop])
    have HK := Aside0.mk (And.intro q0 (And.intro q1 (And.intro q2 q3)))
    replace p0 := eq_true p0
    replace hlt := eq_true hlt
    clear hwi hwb hi hL
    have HI := Aside0.mk (show ((-9223372036854775807 ≤ b ∧ b ≤ 9223372036854775807) ∧ (-9223372036854775807 ≤ wrap64 (b + X.f0) ∧ wrap64 (b + X.f0) ≤ 9223372036854775807)) ∧ (0 < a1 ∧ a1 ≤ 9223372036854775807) ∧ (1 ≤ a2 ∧ a2 ≤ 1000000) by
     have := HA.out.b0
     have := HA.out.b1
     have := HA.out.vd.d0
     have := HCk.out.1.m0
     have := HCk.out.1.m1
     have := HCk.out.1.t0
     have := HCk.out.1.t1
     rw [HW.out.1.2]
     omega)
    go_wp2_with fail
    have hb0 : Below wr.heap.size wr wr.drew := below_drew' (Below.refl _ _)
    by_cases hq1 : q < qq b a1
    ·have HL2 := Aside0.mk (show V = medR (medL a1 a2 q (b + X.f0) (l0.drop (i + 1).toNat)) by rw [HL.out]; simp only [medL]; rw [if_pos hq1])
     have HQ := Aside0.mk hq1
     clear hq1 HL
     refine start_ (n := 13) (S := fun w' => w'.cell? ⟨gt, 0, none⟩ = some (.bool bb) ∧ w'.cell? ⟨gt, 1, none⟩ = some (.slice Au ku cu) ∧ w'.cell? ⟨gt, 2, none⟩ = some (.slice Ax kx cx)) (ds := []) (bs 13 0) (by kernel_rfl) rfl rfl ⟨(hM.out.step hb0).cells.1, (hM.out.step hb0).cells.2.1, (hM.out.step hb0).cells.2.2⟩ (fun hHeld => ?_)
     refine zP 1 51 13 2 ?_
     refine zP 2 52 13 6 ?_
     refine zT 0 50 13 7 hHeld ?_
     refine zN 3 (some 53) 13 15 (fun K hK => ?_)
     refine zG Try.func68 #[.int .i64 b, .int .i64 a1] ?_
     with_reducible refine (ratioM b a1 wr.drew HI.out.1.1.1 HI.out.1.1.2 HI.out.2.1.1 HI.out.2.1.2).mono ?_
     rintro e w5 ⟨v5, rfl, hb5, hm5⟩
     refine ⟨_, rfl, ?_⟩
     have hb5' := below_drew' hb5
     have H5 := Aside0.mk (And.intro hm5 (hM.out.step hb5'))
     clear hb5 hb5' hm5
     refine hK.out _ _ ⟨H5.out.2.cells.1, H5.out.2.cells.2.1, H5.out.2.cells.2.2⟩ (fun hHeld => ?_)
     clear hK K
     refine zM 53 ?_
     refine zN 4 (some 54) 13 31 (fun K hK => ?_)
     refine zG Try.func86 #[.agg #[.bool bb, .slice Au ku cu, .slice Ax kx cx], v5] ?_
     with_reducible refine (lessM_t (.agg #[.bool bb, .slice Au ku cu, .slice Ax kx cx]) v5 q (qq b a1) 3 3 w5 H5.out.2.m H5.out.1 (by decide) HQ.out).mono ?_
     rintro e w6 ⟨rfl, hb6⟩
     refine ⟨_, rfl, ?_⟩
     have H6 := Aside0.mk (H5.out.2.step hb6)
     clear hb6
     refine hK.out _ _ ⟨H6.out.cells.1, H6.out.cells.2.1, H6.out.cells.2.2⟩ (fun hHeld => ?_)
     clear hK K
     refine zM 54 ?_
     refine zP 5 55 13 63 ?_
     refine zP 6 56 13 127 ?_
     refine zO 7 57 13 255 ?_
     refine zO 8 58 13 511 ?_
     refine zO 9 59 13 1023 ?_
     refine zO 10 60 13 2047 ?_
     refine zO 11 61 13 4095 ?_
     refine zP 12 62 13 8191 ?_
     refine done_ (by kernel_rfl) ?_
     clear hHeld hb0 H5
     go_wp2_with fail
     go_roundg k1
     case measure => omega
     case rel => exact ⟨b + X.f0, i + 1, by rw [HW.out.1.2], by rw [HW.out.1.1], ⟨HW.out.2.1, HW.out.2.2, HA.out.sum⟩, ⟨HL2.out⟩, ⟨H6.out⟩⟩
    ·by_cases hq2 : q < qq (b + X.f0) a1
     ·have HQ := Aside0.mk (show ¬ q < qq b a1 ∧ q < qq (wrap64 (b + X.f0)) a1 from ⟨hq1, by rw [HW.out.1.2]; exact hq2⟩)
      refine start_ (n := 13) (S := fun w' => w'.cell? ⟨gt, 0, none⟩ = some (.bool bb) ∧ w'.cell? ⟨gt, 1, none⟩ = some (.slice Au ku cu) ∧ w'.cell? ⟨gt, 2, none⟩ = some (.slice Ax kx cx)) (ds := []) (bs 13 0) (by kernel_rfl) rfl rfl ⟨(hM.out.step hb0).cells.1, (hM.out.step hb0).cells.2.1, (hM.out.step hb0).cells.2.2⟩ (fun hHeld => ?_)
      refine zP 1 51 13 2 ?_
      refine zP 2 52 13 6 ?_
      refine zT 0 50 13 7 hHeld ?_
      refine zN 3 (some 53) 13 15 (fun K hK => ?_)
      refine zG Try.func68 #[.int .i64 b, .int .i64 a1] ?_
      with_reducible refine (ratioM b a1 wr.drew HI.out.1.1.1 HI.out.1.1.2 HI.out.2.1.1 HI.out.2.1.2).mono ?_
      rintro e w5 ⟨v5, rfl, hb5, hm5⟩
      refine ⟨_, rfl, ?_⟩
      have hb5' := below_drew' hb5
      have H5 := Aside0.mk (And.intro hm5 (hM.out.step hb5'))
      have hk5 := hb5'
      clear hb5 hb5' hm5
      refine hK.out _ _ ⟨H5.out.2.cells.1, H5.out.2.cells.2.1, H5.out.2.cells.2.2⟩ (fun hHeld => ?_)
      clear hK K
      refine zM 53 ?_
      refine zN 4 (some 54) 13 31 (fun K hK => ?_)
      refine zG Try.func86 #[.agg #[.bool bb, .slice Au ku cu, .slice Ax kx cx], v5] ?_
      with_reducible refine (lessM_f (.agg #[.bool bb, .slice Au ku cu, .slice Ax kx cx]) v5 q (qq b a1) 3 3 w5 H5.out.2.m H5.out.1 (by decide) HQ.out.1).mono ?_
      rintro e w6 ⟨rfl, hb6⟩
      refine ⟨_, rfl, ?_⟩
      have H6 := Aside0.mk (H5.out.2.step hb6)
      have hk6 := hk5.trans (hb6.mono hk5.size)
      clear hb6 hk5
      refine hK.out _ _ ⟨H6.out.cells.1, H6.out.cells.2.1, H6.out.cells.2.2⟩ (fun hHeld => ?_)
      clear hK K
      refine zM 54 ?_
      refine zP 5 55 13 63 ?_
      refine zP 6 56 13 127 ?_
      refine zP 8 58 13 383 ?_
      refine zP 9 59 13 895 ?_
      refine zT 7 57 13 1023 hHeld ?_
      refine zN 10 (some 60) 13 2047 (fun K hK => ?_)
      refine zG Try.func68 #[.int .i64 (wrap64 (b + X.f0)), .int .i64 a1] ?_
      with_reducible refine (ratioM (wrap64 (b + X.f0)) a1 w6 HI.out.1.2.1 HI.out.1.2.2 HI.out.2.1.1 HI.out.2.1.2).mono ?_
      rintro e w7 ⟨v7, rfl, hb7, hm7⟩
      refine ⟨_, rfl, ?_⟩
      have H7 := Aside0.mk (And.intro hm7 (H6.out.step hb7))
      have hk7 := hk6.trans (hb7.mono hk6.size)
      clear hb7 hm7 hk6
      refine hK.out _ _ ⟨H7.out.2.cells.1, H7.out.2.cells.2.1, H7.out.2.cells.2.2⟩ (fun hHeld => ?_)
      clear hK K
      refine zM 60 ?_
      refine zN 11 (some 61) 13 4095 (fun K hK => ?_)
      refine zG Try.func86 #[.agg #[.bool bb, .slice Au ku cu, .slice Ax kx cx], v7] ?_
      with_reducible refine (lessM_t (.agg #[.bool bb, .slice Au ku cu, .slice Ax kx cx]) v7 q (qq (wrap64 (b + X.f0)) a1) 3 3 w7 H7.out.2.m H7.out.1 (by decide) HQ.out.2).mono ?_
      rintro e w8 ⟨rfl, hb8⟩
      refine ⟨_, rfl, ?_⟩
      have H8 := Aside0.mk (H7.out.2.step hb8)
      have hk8 := hk7.trans (hb8.mono hk7.size)
      clear hb8 hk7
      refine hK.out _ _ ⟨H8.out.cells.1, H8.out.cells.2.1, H8.out.cells.2.2⟩ (fun hHeld => ?_)
      clear hK K
      refine zM 61 ?_
      refine zP 12 62 13 8191 ?_
      refine done_ (by kernel_rfl) ?_
      have H9 := Aside0.mk (And.intro H8.out (And.intro (pw_cell_below hk8 HK.out.1) (And.intro (pw_cell_below hk8 HK.out.2.1) (And.intro (pw_cell_below hk8 HK.out.2.2.1) (pw_cell_below hk8 HK.out.2.2.2)))))
      clear hHeld hb0 H5 H6 H7 H8 hk8 q0 q1 q2 q3
      obtain ⟨q0, q1, q2, q3⟩ := H9.out.2
      go_wp2_with fail
      refine (rempty_n X w8).mono ?_
      rintro e w9 ⟨rfl, hb9⟩
      have H10 := Aside0.mk (And.intro (H9.out.1.step hb9) (And.intro (pw_cell_below hb9 q0) (And.intro (pw_cell_below hb9 q1) (And.intro (pw_cell_below hb9 q2) (pw_cell_below hb9 q3)))))
      clear hb9 H9 q0 q1 q2 q3
      by_cases hm : X.f1 < 0
      ·have hme : (X.f1 == -1) = true := by
        have := HA.out.vd.m0
        rw [beq_iff_eq]
        omega
       rw [hme]
       have HV4 := Aside0.mk (show V = .tuple #[.agg #[.int .i64 0, .int .i64 1], .bool false, .int .i64 0] by rw [HL.out]; simp only [medL]; rw [if_neg hq1, if_pos hq2, if_pos hm]; rfl)
       obtain ⟨z0, z1, f0, f1⟩ := time_cells H10.out.1.z
       obtain ⟨s0, s1, s2, s3⟩ := time_cells H10.out.1.r
       clear HL hq1 hq2 HA HW hm hme HQ
       go_wp2_with fail
       refine bodyPost_ret (results_ctt rfl _ _ (w.heap.size + 1) 37 #[.int .i64 0, .int .i64 1] (0, 0) _ rfl (blk_two H10.out.1.r) Try.underlying37 rfl (by kernel_rfl)) rfl ?_
       exact ⟨by rw [HV4.out]; rfl, (H10.out.1.below.setCell (by simp) _).setCell (by simp) _⟩
      ·have hme : (X.f1 == -1) = false := by
        rw [beq_eq_false_iff_ne]
        omega
       rw [hme]
       have hT : ∀ W v, RM W v (qq X.f1 a2 + (q + -qq b a1) * qq X.f2 X.f3) 14 → Calls Try.prog 87 #[v] W (fun e w' => ∃ u : Nat, e = .returned (.tuple #[.agg #[.int .i64 (tmV (qq X.f1 a2 + (q + -qq b a1) * qq X.f2 X.f3)).1.1, .int .i64 (tmV (qq X.f1 a2 + (q + -qq b a1) * qq X.f2 X.f3)).1.2], .int .i64 (tmV (qq X.f1 a2 + (q + -qq b a1) * qq X.f2 X.f3)).2]) ∧ Below W.heap.size W w') := by
        intro W v h
        refine (timeM v _ 14 W h (by decide)).mono ?_
        rintro e w' ⟨rfl, hb⟩
        exact ⟨0, rfl, hb⟩
       have hV : V = .tuple #[.agg #[.int .i64 (tmV (qq X.f1 a2 + (q + -qq b a1) * qq X.f2 X.f3)).1.1, .int .i64 (tmV (qq X.f1 a2 + (q + -qq b a1) * qq X.f2 X.f3)).1.2], .bool ((tmV (qq X.f1 a2 + (q + -qq b a1) * qq X.f2 X.f3)).2 == 0), .int .i64 (tmV (qq X.f1 a2 + (q + -qq b a1) * qq X.f2 X.f3)).2] := by
        rw [HL.out]
        simp only [medL]
        rw [if_neg hq1, if_pos hq2, if_neg hm, Rat.sub_eq_add_neg]
        rfl
       have hZ : (tmV (qq X.f1 a2 + (q + -qq b a1) * qq X.f2 X.f3)).2 ≠ 0 → (tmV (qq X.f1 a2 + (q + -qq b a1) * qq X.f2 X.f3)).1.1 = 0 ∧ (tmV (qq X.f1 a2 + (q + -qq b a1) * qq X.f2 X.f3)).1.2 = 0 := by
        intro h
        unfold tmV at h ⊢
        split
        ·rename_i h2
         rw [if_pos h2] at h
         exact absurd rfl h
        ·exact ⟨rfl, rfl⟩
       generalize hT1 : (tmV (qq X.f1 a2 + (q + -qq b a1) * qq X.f2 X.f3)).1.1 = T1 at *
       generalize hT2 : (tmV (qq X.f1 a2 + (q + -qq b a1) * qq X.f2 X.f3)).1.2 = T2 at *
       generalize hT3 : (tmV (qq X.f1 a2 + (q + -qq b a1) * qq X.f2 X.f3)).2 = T3 at *
       have HT := Aside0.mk hT
       have HV4 := Aside0.mk (And.intro hV hZ)
       have HJ := Aside0.mk (show ((-9223372036854775807 ≤ X.f1 ∧ X.f1 ≤ 9223372036854775807) ∧ (0 ≤ X.f2 ∧ X.f2 ≤ 1000000)) ∧ (1 ≤ X.f3 ∧ X.f3 ≤ 1000000) by
        have := HA.out.vd.m0
        have := HA.out.vd.m1
        have := HA.out.vd.n0
        have := HA.out.vd.n1
        have := HA.out.vd.e0
        have := HA.out.vd.e1
        omega)
       clear hT hV hZ hT1 hT2 hT3 HL hq1 hq2 HA HW hm hme HQ
       obtain ⟨q0, q1, q2, q3⟩ := H10.out.2
       obtain ⟨c0, c1, c2⟩ := H10.out.1.cells
       go_wp2_with fail
       refine start_ (n := 19) (S := fun w' => w'.cell? (ad.add (i.toNat * 4)) = some (.int .i64 X.f0) ∧ w'.cell? ⟨(ad.add (i.toNat * 4)).block, (ad.add (i.toNat * 4)).off + 1, none⟩ = some (.int .i64 X.f1) ∧ w'.cell? ⟨(ad.add (i.toNat * 4)).block, (ad.add (i.toNat * 4)).off + 2, none⟩ = some (.int .i64 X.f2) ∧ w'.cell? ⟨(ad.add (i.toNat * 4)).block, (ad.add (i.toNat * 4)).off + 3, none⟩ = some (.int .i64 X.f3) ∧ w'.cell? ⟨gt, 0, none⟩ = some (.bool bb) ∧ w'.cell? ⟨gt, 1, none⟩ = some (.slice Au ku cu) ∧ w'.cell? ⟨gt, 2, none⟩ = some (.slice Ax kx cx)) (ds := [17]) (bs 19 0) (by kernel_rfl) rfl rfl ⟨q0, q1, q2, q3, c0, c1, c2⟩ (fun hHeld => ?_)
       refine zP 0 70 19 1 ?_
       refine zP 1 71 19 3 ?_
       refine zP 2 72 19 7 ?_
       refine zP 4 74 19 23 ?_
       refine zP 6 76 19 87 ?_
       refine zP 7 77 19 215 ?_
       refine zT 3 73 19 223 hHeld ?_
       refine zT 5 75 19 255 hHeld ?_
       refine join_ (σ := Value × Value × Value × Value × Nat × Nat) 2 (bs 19 131071) (fun ⟨v8, v9, v10, v11, u12, g16⟩ => [(78, v8), (79, v9), (80, v10), (81, v11), (82, .tuple #[.agg #[.int .i64 T1, .int .i64 T2], .int .i64 T3]), (69, .tuple #[.agg #[.int .i64 T1, .int .i64 T2], .int .i64 T3]), (83, .agg #[.int .i64 T1, .int .i64 T2]), (84, .int .i64 T3), (17, .pointer (some ⟨g16, 0, none⟩))]) (fun ⟨v8, v9, v10, v11, u12, g16⟩ w' => Below w9.heap.size w9 w' ∧ (RM w' v8 (qq b a1) 3) ∧ (RM w' v9 (-qq b a1) 3) ∧ (RM w' v10 (q + -qq b a1) 7) ∧ (RM w' v11 (qq X.f1 a2 + (q + -qq b a1) * qq X.f2 X.f3) 14) ∧ (True) ∧ (w9.heap.size ≤ g16 ∧ w'.heap[g16]? = some (.cells #[.int .i64 0, .int .i64 0] 37))) ?_ (fun hq_8_9_10_11_12_13_14_15_16 => ?_)
       rotate_left
       ·
        refine join_ (σ := Value × Value × Value × Value × Nat × Nat) 3 (bs 19 65535) (fun ⟨v8, v9, v10, v11, u12, _⟩ => [(78, v8), (79, v9), (80, v10), (81, v11), (82, .tuple #[.agg #[.int .i64 T1, .int .i64 T2], .int .i64 T3]), (69, .tuple #[.agg #[.int .i64 T1, .int .i64 T2], .int .i64 T3]), (83, .agg #[.int .i64 T1, .int .i64 T2]), (84, .int .i64 T3)]) (fun ⟨v8, v9, v10, v11, u12, _⟩ w' => Below w9.heap.size w9 w' ∧ (RM w' v8 (qq b a1) 3) ∧ (RM w' v9 (-qq b a1) 3) ∧ (RM w' v10 (q + -qq b a1) 7) ∧ (RM w' v11 (qq X.f1 a2 + (q + -qq b a1) * qq X.f2 X.f3) 14) ∧ (True)) ?_ (fun hq_8_9_10_11_12_13_14_15 => ?_)
        ·rintro ⟨v8, v9, v10, v11, u12, g16⟩ w' ⟨hB, f8, f9, f10, f11, f12⟩
         refine norm_ (a' := ?_) ?_ ?_; rotate_left; (· simp only [putAll, Act.put, List.setIfInBounds_toArray, List.set_cons_zero, List.set_cons_succ, i64_w, i32_w]; rfl)
         refine one_ (i := 16) (N := some 17) (bs 19 131071) rfl rfl (by kernel_rfl) (by decide) (fun K hK => ?_)
         ·
          refine value_ (v := .pointer (some ⟨w'.heap.size, 0, none⟩)) (w1 := w'.alloc (.cells #[.int .i64 0, .int .i64 0] 37)) (by rfl) rfl ?_ ?_
          ·go_simp
          have hb9 : Below w'.heap.size w' (w'.alloc (.cells #[.int .i64 0, .int .i64 0] 37)) := below_alloc (Below.refl _ _) _
          have n16 := blk_new w' (.cells #[.int .i64 0, .int .i64 0] 37)
          have hB9 := hB.trans (hb9.mono hB.size)
          refine hK.out _ _ ⟨pw_cell_below hB9 q0, pw_cell_below hB9 q1, pw_cell_below hB9 q2, pw_cell_below hB9 q3, pw_cell_below hB9 c0, pw_cell_below hB9 c1, pw_cell_below hB9 c2⟩ (fun hHeld => ?_)
          clear hK K
          refine norm_ ?_ (hq_8_9_10_11_12_13_14_15_16 ⟨v8, v9, v10, v11, u12, w'.heap.size⟩ _ ⟨hB9, f8.below hb9, f9.below hb9, f10.below hb9, f11.below hb9, trivial, ⟨hB.size, n16⟩⟩); (· simp only [putAll, Act.put, List.setIfInBounds_toArray, List.set_cons_zero, List.set_cons_succ, i64_w, i32_w])
        refine join_ (σ := Value × Value × Value × Value × Nat × Nat) 6 (bs 19 69631) (fun ⟨v8, v9, v10, v11, _, g16⟩ => [(78, v8), (79, v9), (80, v10), (81, v11), (17, .pointer (some ⟨g16, 0, none⟩))]) (fun ⟨v8, v9, v10, v11, _, g16⟩ w' => Below w9.heap.size w9 w' ∧ (RM w' v8 (qq b a1) 3) ∧ (RM w' v9 (-qq b a1) 3) ∧ (RM w' v10 (q + -qq b a1) 7) ∧ (RM w' v11 (qq X.f1 a2 + (q + -qq b a1) * qq X.f2 X.f3) 14) ∧ (w9.heap.size ≤ g16 ∧ w'.heap[g16]? = some (.cells #[.int .i64 0, .int .i64 0] 37))) ?_ (fun hq_8_9_10_11_16 => ?_)
        ·rintro ⟨v8, v9, v10, v11, u12, g16⟩ w' ⟨hB, f8, f9, f10, f11, f16⟩
         refine norm_ (a' := ?_) ?_ ?_; rotate_left; (· simp only [putAll, Act.put, List.setIfInBounds_toArray, List.set_cons_zero, List.set_cons_succ, i64_w, i32_w]; rfl)
         refine one_ (i := 12) (N := some 82) (bs 19 73727) rfl rfl (by kernel_rfl) (by decide) (fun K hK => ?_)
         ·
          refine goes_ Try.func87 (by kernel_rfl) rfl #[v11] (by rfl) rfl rfl (by simp only [List.map_toArray, List.map_cons, List.map_nil]; rfl) ?_
          with_reducible refine (HT.out w' v11 f11).mono ?_
          rintro e w9 ⟨u12, rfl, hb9⟩
          refine ⟨_, rfl, ?_⟩
          have hB9 := hB.trans (hb9.mono hB.size)
          refine hK.out _ _ ⟨pw_cell_below hB9 q0, pw_cell_below hB9 q1, pw_cell_below hB9 q2, pw_cell_below hB9 q3, pw_cell_below hB9 c0, pw_cell_below hB9 c1, pw_cell_below hB9 c2⟩ (fun hHeld => ?_)
          clear hK K
          refine norm_ (a' := ?_) ?_ ?_; rotate_left; (· show Act.put _ (some 82) _ = _; simp only [putAll, Act.put, List.setIfInBounds_toArray, List.set_cons_zero, List.set_cons_succ, i64_w, i32_w]; rfl)
          refine pure_ (i := 13) (N := some 69) (v := ?_) (a' := ?_) (bs 19 81919) rfl rfl (by kernel_rfl) (fun _ _ _ h => h) (Or.inl ⟨by rfl, ?_⟩) ?_ ?_; rotate_left; (· intro w'; go_simp; first | done | with_reducible rfl); rotate_left; (· simp only [Act.put, List.setIfInBounds_toArray, List.set_cons_zero, List.set_cons_succ, i64_w, i32_w]; rfl)
          refine pure_ (i := 14) (N := some 83) (v := ?_) (a' := ?_) (bs 19 98303) rfl rfl (by kernel_rfl) (fun _ _ _ h => h) (Or.inl ⟨by rfl, ?_⟩) ?_ ?_; rotate_left; (· intro w'; go_simp; first | done | with_reducible rfl); rotate_left; (· simp only [Act.put, List.setIfInBounds_toArray, List.set_cons_zero, List.set_cons_succ, i64_w, i32_w]; rfl)
          refine pure_ (i := 15) (N := some 84) (v := ?_) (a' := ?_) (bs 19 131071) rfl rfl (by kernel_rfl) (fun _ _ _ h => h) (Or.inl ⟨by rfl, ?_⟩) ?_ ?_; rotate_left; (· intro w'; go_simp; first | done | with_reducible rfl); rotate_left; (· simp only [Act.put, List.setIfInBounds_toArray, List.set_cons_zero, List.set_cons_succ, i64_w, i32_w]; rfl)
          refine norm_ ?_ (hq_8_9_10_11_12_13_14_15_16 ⟨v8, v9, v10, v11, u12, g16⟩ _ ⟨hB9, f8.below hb9, f9.below hb9, f10.below hb9, f11.below hb9, trivial, ⟨f16.1, blk_below f16.2 hb9⟩⟩); (· simp only [putAll, Act.put, List.setIfInBounds_toArray, List.set_cons_zero, List.set_cons_succ, i64_w, i32_w])
        refine join_ (σ := Value × Value × Value × Value × Nat × Nat) 7 (bs 19 67583) (fun ⟨v8, v9, v10, _, _, g16⟩ => [(78, v8), (79, v9), (80, v10), (17, .pointer (some ⟨g16, 0, none⟩))]) (fun ⟨v8, v9, v10, _, _, g16⟩ w' => Below w9.heap.size w9 w' ∧ (RM w' v8 (qq b a1) 3) ∧ (RM w' v9 (-qq b a1) 3) ∧ (RM w' v10 (q + -qq b a1) 7) ∧ (w9.heap.size ≤ g16 ∧ w'.heap[g16]? = some (.cells #[.int .i64 0, .int .i64 0] 37))) ?_ (fun hq_8_9_10_16 => ?_)
        ·rintro ⟨v8, v9, v10, v11, u12, g16⟩ w' ⟨hB, f8, f9, f10, f16⟩
         refine norm_ (a' := ?_) ?_ ?_; rotate_left; (· simp only [putAll, Act.put, List.setIfInBounds_toArray, List.set_cons_zero, List.set_cons_succ, i64_w, i32_w]; rfl)
         refine one_ (i := 11) (N := some 81) (bs 19 69631) rfl rfl (by kernel_rfl) (by decide) (fun K hK => ?_)
         ·
          refine goes_ Try.func88 (by kernel_rfl) rfl #[.agg #[.int .i64 X.f0, .int .i64 X.f1, .int .i64 X.f2, .int .i64 X.f3], .int .i64 a2, v10] (by rfl) rfl rfl (by simp only [List.map_toArray, List.map_cons, List.map_nil]; rfl) ?_
          with_reducible refine (mediaM X.f0 X.f1 X.f2 X.f3 a2 v10 (q + -qq b a1) 7 w' HJ.out.1.2.1 HJ.out.1.2.2 HJ.out.2.1 HJ.out.2.2 HJ.out.1.1.1 HJ.out.1.1.2 HI.out.2.2.1 HI.out.2.2.2 f10 (by decide)).mono ?_
          rintro e w9 ⟨v11, rfl, hb9, n11⟩
          refine ⟨_, rfl, ?_⟩
          have hB9 := hB.trans (hb9.mono hB.size)
          refine hK.out _ _ ⟨pw_cell_below hB9 q0, pw_cell_below hB9 q1, pw_cell_below hB9 q2, pw_cell_below hB9 q3, pw_cell_below hB9 c0, pw_cell_below hB9 c1, pw_cell_below hB9 c2⟩ (fun hHeld => ?_)
          clear hK K
          refine norm_ ?_ (hq_8_9_10_11_16 ⟨v8, v9, v10, v11, 0, g16⟩ _ ⟨hB9, f8.below hb9, f9.below hb9, f10.below hb9, n11, ⟨f16.1, blk_below f16.2 hb9⟩⟩); (· simp only [putAll, Act.put, List.setIfInBounds_toArray, List.set_cons_zero, List.set_cons_succ, i64_w, i32_w])
        refine join_ (σ := Value × Value × Value × Value × Nat × Nat) 7 (bs 19 4095) (fun ⟨v8, v9, v10, v11, _, _⟩ => [(78, v8), (79, v9), (80, v10), (81, v11)]) (fun ⟨v8, v9, v10, v11, _, _⟩ w' => Below w9.heap.size w9 w' ∧ (RM w' v8 (qq b a1) 3) ∧ (RM w' v9 (-qq b a1) 3) ∧ (RM w' v10 (q + -qq b a1) 7) ∧ (RM w' v11 (qq X.f1 a2 + (q + -qq b a1) * qq X.f2 X.f3) 14)) ?_ (fun hq_8_9_10_11 => ?_)
        ·rintro ⟨v8, v9, v10, v11, u12, g16⟩ w' ⟨hB, f8, f9, f10, f11⟩
         refine norm_ (a' := ?_) ?_ ?_; rotate_left; (· simp only [putAll, Act.put, List.setIfInBounds_toArray, List.set_cons_zero, List.set_cons_succ, i64_w, i32_w]; rfl)
         refine two_ (i := 12) (j := 16) (Ni := some 82) (Nj := some 17) (bs 19 8191) (bs 19 69631) rfl rfl rfl rfl (by kernel_rfl) (by decide) (by decide) (fun K hK => ?_) (fun K hK => ?_)
         ·
          refine goes_ Try.func87 (by kernel_rfl) rfl #[v11] (by rfl) rfl rfl (by simp only [List.map_toArray, List.map_cons, List.map_nil]; rfl) ?_
          with_reducible refine (HT.out w' v11 f11).mono ?_
          rintro e w9 ⟨u12, rfl, hb9⟩
          refine ⟨_, rfl, ?_⟩
          have hB9 := hB.trans (hb9.mono hB.size)
          refine hK.out _ _ ⟨pw_cell_below hB9 q0, pw_cell_below hB9 q1, pw_cell_below hB9 q2, pw_cell_below hB9 q3, pw_cell_below hB9 c0, pw_cell_below hB9 c1, pw_cell_below hB9 c2⟩ (fun hHeld => ?_)
          clear hK K
          refine norm_ (a' := ?_) ?_ ?_; rotate_left; (· show Act.put _ (some 82) _ = _; simp only [putAll, Act.put, List.setIfInBounds_toArray, List.set_cons_zero, List.set_cons_succ, i64_w, i32_w]; rfl)
          refine pure_ (i := 13) (N := some 69) (v := ?_) (a' := ?_) (bs 19 16383) rfl rfl (by kernel_rfl) (fun _ _ _ h => h) (Or.inl ⟨by rfl, ?_⟩) ?_ ?_; rotate_left; (· intro w'; go_simp; first | done | with_reducible rfl); rotate_left; (· simp only [Act.put, List.setIfInBounds_toArray, List.set_cons_zero, List.set_cons_succ, i64_w, i32_w]; rfl)
          refine pure_ (i := 14) (N := some 83) (v := ?_) (a' := ?_) (bs 19 32767) rfl rfl (by kernel_rfl) (fun _ _ _ h => h) (Or.inl ⟨by rfl, ?_⟩) ?_ ?_; rotate_left; (· intro w'; go_simp; first | done | with_reducible rfl); rotate_left; (· simp only [Act.put, List.setIfInBounds_toArray, List.set_cons_zero, List.set_cons_succ, i64_w, i32_w]; rfl)
          refine pure_ (i := 15) (N := some 84) (v := ?_) (a' := ?_) (bs 19 65535) rfl rfl (by kernel_rfl) (fun _ _ _ h => h) (Or.inl ⟨by rfl, ?_⟩) ?_ ?_; rotate_left; (· intro w'; go_simp; first | done | with_reducible rfl); rotate_left; (· simp only [Act.put, List.setIfInBounds_toArray, List.set_cons_zero, List.set_cons_succ, i64_w, i32_w]; rfl)
          refine norm_ ?_ (hq_8_9_10_11_12_13_14_15 ⟨v8, v9, v10, v11, u12, 0⟩ _ ⟨hB9, f8.below hb9, f9.below hb9, f10.below hb9, f11.below hb9, trivial⟩); (· simp only [putAll, Act.put, List.setIfInBounds_toArray, List.set_cons_zero, List.set_cons_succ, i64_w, i32_w])
         ·
          refine value_ (v := .pointer (some ⟨w'.heap.size, 0, none⟩)) (w1 := w'.alloc (.cells #[.int .i64 0, .int .i64 0] 37)) (by rfl) rfl ?_ ?_
          ·go_simp
          have hb9 : Below w'.heap.size w' (w'.alloc (.cells #[.int .i64 0, .int .i64 0] 37)) := below_alloc (Below.refl _ _) _
          have n16 := blk_new w' (.cells #[.int .i64 0, .int .i64 0] 37)
          have hB9 := hB.trans (hb9.mono hB.size)
          refine hK.out _ _ ⟨pw_cell_below hB9 q0, pw_cell_below hB9 q1, pw_cell_below hB9 q2, pw_cell_below hB9 q3, pw_cell_below hB9 c0, pw_cell_below hB9 c1, pw_cell_below hB9 c2⟩ (fun hHeld => ?_)
          clear hK K
          refine norm_ ?_ (hq_8_9_10_11_16 ⟨v8, v9, v10, v11, 0, w'.heap.size⟩ _ ⟨hB9, f8.below hb9, f9.below hb9, f10.below hb9, f11.below hb9, ⟨hB.size, n16⟩⟩); (· simp only [putAll, Act.put, List.setIfInBounds_toArray, List.set_cons_zero, List.set_cons_succ, i64_w, i32_w])
        refine join_ (σ := Value × Value × Value × Value × Nat × Nat) 8 (bs 19 66559) (fun ⟨v8, v9, _, _, _, g16⟩ => [(78, v8), (79, v9), (17, .pointer (some ⟨g16, 0, none⟩))]) (fun ⟨v8, v9, _, _, _, g16⟩ w' => Below w9.heap.size w9 w' ∧ (RM w' v8 (qq b a1) 3) ∧ (RM w' v9 (-qq b a1) 3) ∧ (w9.heap.size ≤ g16 ∧ w'.heap[g16]? = some (.cells #[.int .i64 0, .int .i64 0] 37))) ?_ (fun hq_8_9_16 => ?_)
        ·rintro ⟨v8, v9, v10, v11, u12, g16⟩ w' ⟨hB, f8, f9, f16⟩
         refine norm_ (a' := ?_) ?_ ?_; rotate_left; (· simp only [putAll, Act.put, List.setIfInBounds_toArray, List.set_cons_zero, List.set_cons_succ, i64_w, i32_w]; rfl)
         refine one_ (i := 10) (N := some 80) (bs 19 67583) rfl rfl (by kernel_rfl) (by decide) (fun K hK => ?_)
         ·
          refine goes_ Try.func69 (by kernel_rfl) rfl #[.agg #[.bool bb, .slice Au ku cu, .slice Ax kx cx], v9] (by rfl) rfl rfl (by simp only [List.map_toArray, List.map_cons, List.map_nil]; rfl) ?_
          with_reducible refine (plusM (.agg #[.bool bb, .slice Au ku cu, .slice Ax kx cx]) v9 q (-qq b a1) 3 3 w' (H10.out.1.m.below hB) f9 (by decide)).mono ?_
          rintro e w9 ⟨v10, rfl, hb9, n10⟩
          refine ⟨_, rfl, ?_⟩
          have hB9 := hB.trans (hb9.mono hB.size)
          refine hK.out _ _ ⟨pw_cell_below hB9 q0, pw_cell_below hB9 q1, pw_cell_below hB9 q2, pw_cell_below hB9 q3, pw_cell_below hB9 c0, pw_cell_below hB9 c1, pw_cell_below hB9 c2⟩ (fun hHeld => ?_)
          clear hK K
          refine norm_ ?_ (hq_8_9_10_16 ⟨v8, v9, v10, .bool false, 0, g16⟩ _ ⟨hB9, f8.below hb9, f9.below hb9, n10, ⟨f16.1, blk_below f16.2 hb9⟩⟩); (· simp only [putAll, Act.put, List.setIfInBounds_toArray, List.set_cons_zero, List.set_cons_succ, i64_w, i32_w])
        refine join_ (σ := Value × Value × Value × Value × Nat × Nat) 8 (bs 19 2047) (fun ⟨v8, v9, v10, _, _, _⟩ => [(78, v8), (79, v9), (80, v10)]) (fun ⟨v8, v9, v10, _, _, _⟩ w' => Below w9.heap.size w9 w' ∧ (RM w' v8 (qq b a1) 3) ∧ (RM w' v9 (-qq b a1) 3) ∧ (RM w' v10 (q + -qq b a1) 7)) ?_ (fun hq_8_9_10 => ?_)
        ·rintro ⟨v8, v9, v10, v11, u12, g16⟩ w' ⟨hB, f8, f9, f10⟩
         refine norm_ (a' := ?_) ?_ ?_; rotate_left; (· simp only [putAll, Act.put, List.setIfInBounds_toArray, List.set_cons_zero, List.set_cons_succ, i64_w, i32_w]; rfl)
         refine two_ (i := 11) (j := 16) (Ni := some 81) (Nj := some 17) (bs 19 4095) (bs 19 67583) rfl rfl rfl rfl (by kernel_rfl) (by decide) (by decide) (fun K hK => ?_) (fun K hK => ?_)
         ·
          refine goes_ Try.func88 (by kernel_rfl) rfl #[.agg #[.int .i64 X.f0, .int .i64 X.f1, .int .i64 X.f2, .int .i64 X.f3], .int .i64 a2, v10] (by rfl) rfl rfl (by simp only [List.map_toArray, List.map_cons, List.map_nil]; rfl) ?_
          with_reducible refine (mediaM X.f0 X.f1 X.f2 X.f3 a2 v10 (q + -qq b a1) 7 w' HJ.out.1.2.1 HJ.out.1.2.2 HJ.out.2.1 HJ.out.2.2 HJ.out.1.1.1 HJ.out.1.1.2 HI.out.2.2.1 HI.out.2.2.2 f10 (by decide)).mono ?_
          rintro e w9 ⟨v11, rfl, hb9, n11⟩
          refine ⟨_, rfl, ?_⟩
          have hB9 := hB.trans (hb9.mono hB.size)
          refine hK.out _ _ ⟨pw_cell_below hB9 q0, pw_cell_below hB9 q1, pw_cell_below hB9 q2, pw_cell_below hB9 q3, pw_cell_below hB9 c0, pw_cell_below hB9 c1, pw_cell_below hB9 c2⟩ (fun hHeld => ?_)
          clear hK K
          refine norm_ ?_ (hq_8_9_10_11 ⟨v8, v9, v10, v11, 0, 0⟩ _ ⟨hB9, f8.below hb9, f9.below hb9, f10.below hb9, n11⟩); (· simp only [putAll, Act.put, List.setIfInBounds_toArray, List.set_cons_zero, List.set_cons_succ, i64_w, i32_w])
         ·
          refine value_ (v := .pointer (some ⟨w'.heap.size, 0, none⟩)) (w1 := w'.alloc (.cells #[.int .i64 0, .int .i64 0] 37)) (by rfl) rfl ?_ ?_
          ·go_simp
          have hb9 : Below w'.heap.size w' (w'.alloc (.cells #[.int .i64 0, .int .i64 0] 37)) := below_alloc (Below.refl _ _) _
          have n16 := blk_new w' (.cells #[.int .i64 0, .int .i64 0] 37)
          have hB9 := hB.trans (hb9.mono hB.size)
          refine hK.out _ _ ⟨pw_cell_below hB9 q0, pw_cell_below hB9 q1, pw_cell_below hB9 q2, pw_cell_below hB9 q3, pw_cell_below hB9 c0, pw_cell_below hB9 c1, pw_cell_below hB9 c2⟩ (fun hHeld => ?_)
          clear hK K
          refine norm_ ?_ (hq_8_9_10_16 ⟨v8, v9, v10, .bool false, 0, w'.heap.size⟩ _ ⟨hB9, f8.below hb9, f9.below hb9, f10.below hb9, ⟨hB.size, n16⟩⟩); (· simp only [putAll, Act.put, List.setIfInBounds_toArray, List.set_cons_zero, List.set_cons_succ, i64_w, i32_w])
        refine join_ (σ := Value × Value × Value × Value × Nat × Nat) 9 (bs 19 66047) (fun ⟨v8, _, _, _, _, g16⟩ => [(78, v8), (17, .pointer (some ⟨g16, 0, none⟩))]) (fun ⟨v8, _, _, _, _, g16⟩ w' => Below w9.heap.size w9 w' ∧ (RM w' v8 (qq b a1) 3) ∧ (w9.heap.size ≤ g16 ∧ w'.heap[g16]? = some (.cells #[.int .i64 0, .int .i64 0] 37))) ?_ (fun hq_8_16 => ?_)
        ·rintro ⟨v8, v9, v10, v11, u12, g16⟩ w' ⟨hB, f8, f16⟩
         refine norm_ (a' := ?_) ?_ ?_; rotate_left; (· simp only [putAll, Act.put, List.setIfInBounds_toArray, List.set_cons_zero, List.set_cons_succ, i64_w, i32_w]; rfl)
         refine one_ (i := 9) (N := some 79) (bs 19 66559) rfl rfl (by kernel_rfl) (by decide) (fun K hK => ?_)
         ·
          refine goes_ Try.func89 (by kernel_rfl) rfl #[v8] (by rfl) rfl rfl (by simp only [List.map_toArray, List.map_cons, List.map_nil]; rfl) ?_
          with_reducible refine (negM v8 (qq b a1) 3 w' f8).mono ?_
          rintro e w9 ⟨v9, rfl, hb9, n9⟩
          refine ⟨_, rfl, ?_⟩
          have hB9 := hB.trans (hb9.mono hB.size)
          refine hK.out _ _ ⟨pw_cell_below hB9 q0, pw_cell_below hB9 q1, pw_cell_below hB9 q2, pw_cell_below hB9 q3, pw_cell_below hB9 c0, pw_cell_below hB9 c1, pw_cell_below hB9 c2⟩ (fun hHeld => ?_)
          clear hK K
          refine norm_ ?_ (hq_8_9_16 ⟨v8, v9, .bool false, .bool false, 0, g16⟩ _ ⟨hB9, f8.below hb9, n9, ⟨f16.1, blk_below f16.2 hb9⟩⟩); (· simp only [putAll, Act.put, List.setIfInBounds_toArray, List.set_cons_zero, List.set_cons_succ, i64_w, i32_w])
        refine join_ (σ := Value × Value × Value × Value × Nat × Nat) 9 (bs 19 1023) (fun ⟨v8, v9, _, _, _, _⟩ => [(78, v8), (79, v9)]) (fun ⟨v8, v9, _, _, _, _⟩ w' => Below w9.heap.size w9 w' ∧ (RM w' v8 (qq b a1) 3) ∧ (RM w' v9 (-qq b a1) 3)) ?_ (fun hq_8_9 => ?_)
        ·rintro ⟨v8, v9, v10, v11, u12, g16⟩ w' ⟨hB, f8, f9⟩
         refine norm_ (a' := ?_) ?_ ?_; rotate_left; (· simp only [putAll, Act.put, List.setIfInBounds_toArray, List.set_cons_zero, List.set_cons_succ, i64_w, i32_w]; rfl)
         refine two_ (i := 10) (j := 16) (Ni := some 80) (Nj := some 17) (bs 19 2047) (bs 19 66559) rfl rfl rfl rfl (by kernel_rfl) (by decide) (by decide) (fun K hK => ?_) (fun K hK => ?_)
         ·
          refine goes_ Try.func69 (by kernel_rfl) rfl #[.agg #[.bool bb, .slice Au ku cu, .slice Ax kx cx], v9] (by rfl) rfl rfl (by simp only [List.map_toArray, List.map_cons, List.map_nil]; rfl) ?_
          with_reducible refine (plusM (.agg #[.bool bb, .slice Au ku cu, .slice Ax kx cx]) v9 q (-qq b a1) 3 3 w' (H10.out.1.m.below hB) f9 (by decide)).mono ?_
          rintro e w9 ⟨v10, rfl, hb9, n10⟩
          refine ⟨_, rfl, ?_⟩
          have hB9 := hB.trans (hb9.mono hB.size)
          refine hK.out _ _ ⟨pw_cell_below hB9 q0, pw_cell_below hB9 q1, pw_cell_below hB9 q2, pw_cell_below hB9 q3, pw_cell_below hB9 c0, pw_cell_below hB9 c1, pw_cell_below hB9 c2⟩ (fun hHeld => ?_)
          clear hK K
          refine norm_ ?_ (hq_8_9_10 ⟨v8, v9, v10, .bool false, 0, 0⟩ _ ⟨hB9, f8.below hb9, f9.below hb9, n10⟩); (· simp only [putAll, Act.put, List.setIfInBounds_toArray, List.set_cons_zero, List.set_cons_succ, i64_w, i32_w])
         ·
          refine value_ (v := .pointer (some ⟨w'.heap.size, 0, none⟩)) (w1 := w'.alloc (.cells #[.int .i64 0, .int .i64 0] 37)) (by rfl) rfl ?_ ?_
          ·go_simp
          have hb9 : Below w'.heap.size w' (w'.alloc (.cells #[.int .i64 0, .int .i64 0] 37)) := below_alloc (Below.refl _ _) _
          have n16 := blk_new w' (.cells #[.int .i64 0, .int .i64 0] 37)
          have hB9 := hB.trans (hb9.mono hB.size)
          refine hK.out _ _ ⟨pw_cell_below hB9 q0, pw_cell_below hB9 q1, pw_cell_below hB9 q2, pw_cell_below hB9 q3, pw_cell_below hB9 c0, pw_cell_below hB9 c1, pw_cell_below hB9 c2⟩ (fun hHeld => ?_)
          clear hK K
          refine norm_ ?_ (hq_8_9_16 ⟨v8, v9, .bool false, .bool false, 0, w'.heap.size⟩ _ ⟨hB9, f8.below hb9, f9.below hb9, ⟨hB.size, n16⟩⟩); (· simp only [putAll, Act.put, List.setIfInBounds_toArray, List.set_cons_zero, List.set_cons_succ, i64_w, i32_w])
        refine join_ (σ := Value × Value × Value × Value × Nat × Nat) 10 (bs 19 511) (fun ⟨v8, _, _, _, _, _⟩ => [(78, v8)]) (fun ⟨v8, _, _, _, _, _⟩ w' => Below w9.heap.size w9 w' ∧ (RM w' v8 (qq b a1) 3)) ?_ (fun hq_8 => ?_)
        ·rintro ⟨v8, v9, v10, v11, u12, g16⟩ w' ⟨hB, f8⟩
         refine norm_ (a' := ?_) ?_ ?_; rotate_left; (· simp only [putAll, Act.put, List.setIfInBounds_toArray, List.set_cons_zero, List.set_cons_succ, i64_w, i32_w]; rfl)
         refine two_ (i := 9) (j := 16) (Ni := some 79) (Nj := some 17) (bs 19 1023) (bs 19 66047) rfl rfl rfl rfl (by kernel_rfl) (by decide) (by decide) (fun K hK => ?_) (fun K hK => ?_)
         ·
          refine goes_ Try.func89 (by kernel_rfl) rfl #[v8] (by rfl) rfl rfl (by simp only [List.map_toArray, List.map_cons, List.map_nil]; rfl) ?_
          with_reducible refine (negM v8 (qq b a1) 3 w' f8).mono ?_
          rintro e w9 ⟨v9, rfl, hb9, n9⟩
          refine ⟨_, rfl, ?_⟩
          have hB9 := hB.trans (hb9.mono hB.size)
          refine hK.out _ _ ⟨pw_cell_below hB9 q0, pw_cell_below hB9 q1, pw_cell_below hB9 q2, pw_cell_below hB9 q3, pw_cell_below hB9 c0, pw_cell_below hB9 c1, pw_cell_below hB9 c2⟩ (fun hHeld => ?_)
          clear hK K
          refine norm_ ?_ (hq_8_9 ⟨v8, v9, .bool false, .bool false, 0, 0⟩ _ ⟨hB9, f8.below hb9, n9⟩); (· simp only [putAll, Act.put, List.setIfInBounds_toArray, List.set_cons_zero, List.set_cons_succ, i64_w, i32_w])
         ·
          refine value_ (v := .pointer (some ⟨w'.heap.size, 0, none⟩)) (w1 := w'.alloc (.cells #[.int .i64 0, .int .i64 0] 37)) (by rfl) rfl ?_ ?_
          ·go_simp
          have hb9 : Below w'.heap.size w' (w'.alloc (.cells #[.int .i64 0, .int .i64 0] 37)) := below_alloc (Below.refl _ _) _
          have n16 := blk_new w' (.cells #[.int .i64 0, .int .i64 0] 37)
          have hB9 := hB.trans (hb9.mono hB.size)
          refine hK.out _ _ ⟨pw_cell_below hB9 q0, pw_cell_below hB9 q1, pw_cell_below hB9 q2, pw_cell_below hB9 q3, pw_cell_below hB9 c0, pw_cell_below hB9 c1, pw_cell_below hB9 c2⟩ (fun hHeld => ?_)
          clear hK K
          refine norm_ ?_ (hq_8_16 ⟨v8, .bool false, .bool false, .bool false, 0, w'.heap.size⟩ _ ⟨hB9, f8.below hb9, ⟨hB.size, n16⟩⟩); (· simp only [putAll, Act.put, List.setIfInBounds_toArray, List.set_cons_zero, List.set_cons_succ, i64_w, i32_w])
        refine join_ (σ := Value × Value × Value × Value × Nat × Nat) 10 (bs 19 65791) (fun ⟨_, _, _, _, _, g16⟩ => [(17, .pointer (some ⟨g16, 0, none⟩))]) (fun ⟨_, _, _, _, _, g16⟩ w' => Below w9.heap.size w9 w' ∧ (w9.heap.size ≤ g16 ∧ w'.heap[g16]? = some (.cells #[.int .i64 0, .int .i64 0] 37))) ?_ (fun hq_16 => ?_)
        ·rintro ⟨v8, v9, v10, v11, u12, g16⟩ w' ⟨hB, f16⟩
         refine norm_ (a' := ?_) ?_ ?_; rotate_left; (· simp only [putAll, Act.put, List.setIfInBounds_toArray, List.set_cons_zero, List.set_cons_succ, i64_w, i32_w]; rfl)
         refine one_ (i := 8) (N := some 78) (bs 19 66047) rfl rfl (by kernel_rfl) (by decide) (fun K hK => ?_)
         ·
          refine goes_ Try.func68 (by kernel_rfl) rfl #[.int .i64 b, .int .i64 a1] (by rfl) rfl rfl (by simp only [List.map_toArray, List.map_cons, List.map_nil]; rfl) ?_
          with_reducible refine (ratioM b a1 w' HI.out.1.1.1 HI.out.1.1.2 HI.out.2.1.1 HI.out.2.1.2).mono ?_
          rintro e w9 ⟨v8, rfl, hb9, n8⟩
          refine ⟨_, rfl, ?_⟩
          have hB9 := hB.trans (hb9.mono hB.size)
          refine hK.out _ _ ⟨pw_cell_below hB9 q0, pw_cell_below hB9 q1, pw_cell_below hB9 q2, pw_cell_below hB9 q3, pw_cell_below hB9 c0, pw_cell_below hB9 c1, pw_cell_below hB9 c2⟩ (fun hHeld => ?_)
          clear hK K
          refine norm_ ?_ (hq_8_16 ⟨v8, .bool false, .bool false, .bool false, 0, g16⟩ _ ⟨hB9, n8, ⟨f16.1, blk_below f16.2 hb9⟩⟩); (· simp only [putAll, Act.put, List.setIfInBounds_toArray, List.set_cons_zero, List.set_cons_succ, i64_w, i32_w])
        have hB := below_drew' (Below.refl _ w9.drew)
        refine two_ (i := 8) (j := 16) (Ni := some 78) (Nj := some 17) (bs 19 511) (bs 19 65791) rfl rfl rfl rfl (by kernel_rfl) (by decide) (by decide) (fun K hK => ?_) (fun K hK => ?_)
        ·
         refine goes_ Try.func68 (by kernel_rfl) rfl #[.int .i64 b, .int .i64 a1] (by rfl) rfl rfl (by simp only [List.map_toArray, List.map_cons, List.map_nil]; rfl) ?_
         with_reducible refine (ratioM b a1 w9.drew HI.out.1.1.1 HI.out.1.1.2 HI.out.2.1.1 HI.out.2.1.2).mono ?_
         rintro e w9 ⟨v8, rfl, hb9, n8⟩
         refine ⟨_, rfl, ?_⟩
         have hB9 := hB.trans (hb9.mono hB.size)
         refine hK.out _ _ ⟨pw_cell_below hB9 q0, pw_cell_below hB9 q1, pw_cell_below hB9 q2, pw_cell_below hB9 q3, pw_cell_below hB9 c0, pw_cell_below hB9 c1, pw_cell_below hB9 c2⟩ (fun hHeld => ?_)
         clear hK K
         refine norm_ ?_ (hq_8 ⟨v8, .bool false, .bool false, .bool false, 0, 0⟩ _ ⟨hB9, n8⟩); (· simp only [putAll, Act.put, List.setIfInBounds_toArray, List.set_cons_zero, List.set_cons_succ, i64_w, i32_w])
        ·
         refine value_ (v := .pointer (some ⟨w9.drew.heap.size, 0, none⟩)) (w1 := w9.drew.alloc (.cells #[.int .i64 0, .int .i64 0] 37)) (by rfl) rfl ?_ ?_
         ·go_simp
         have hb9 : Below w9.drew.heap.size w9.drew (w9.drew.alloc (.cells #[.int .i64 0, .int .i64 0] 37)) := below_alloc (Below.refl _ _) _
         have n16 := blk_new w9.drew (.cells #[.int .i64 0, .int .i64 0] 37)
         have hB9 := hB.trans (hb9.mono hB.size)
         refine hK.out _ _ ⟨pw_cell_below hB9 q0, pw_cell_below hB9 q1, pw_cell_below hB9 q2, pw_cell_below hB9 q3, pw_cell_below hB9 c0, pw_cell_below hB9 c1, pw_cell_below hB9 c2⟩ (fun hHeld => ?_)
         clear hK K
         refine norm_ ?_ (hq_16 ⟨.bool false, .bool false, .bool false, .bool false, 0, w9.drew.heap.size⟩ _ ⟨hB9, ⟨hB.size, n16⟩⟩); (· simp only [putAll, Act.put, List.setIfInBounds_toArray, List.set_cons_zero, List.set_cons_succ, i64_w, i32_w])
       rintro ⟨v8, v9, v10, v11, u12, g16⟩ w' ⟨hB, f8, f9, f10, f11, f12, f16⟩
       refine norm_ (a' := ?_) ?_ ?_; rotate_left; (· simp only [putAll, Act.put, List.setIfInBounds_toArray, List.set_cons_zero, List.set_cons_succ, i64_w, i32_w]; rfl)
       have hHeld : w'.cell? (ad.add (i.toNat * 4)) = some (.int .i64 X.f0) ∧ w'.cell? ⟨(ad.add (i.toNat * 4)).block, (ad.add (i.toNat * 4)).off + 1, none⟩ = some (.int .i64 X.f1) ∧ w'.cell? ⟨(ad.add (i.toNat * 4)).block, (ad.add (i.toNat * 4)).off + 2, none⟩ = some (.int .i64 X.f2) ∧ w'.cell? ⟨(ad.add (i.toNat * 4)).block, (ad.add (i.toNat * 4)).off + 3, none⟩ = some (.int .i64 X.f3) ∧ w'.cell? ⟨gt, 0, none⟩ = some (.bool bb) ∧ w'.cell? ⟨gt, 1, none⟩ = some (.slice Au ku cu) ∧ w'.cell? ⟨gt, 2, none⟩ = some (.slice Ax kx cx) := ⟨pw_cell_below hB q0, pw_cell_below hB q1, pw_cell_below hB q2, pw_cell_below hB q3, pw_cell_below hB c0, pw_cell_below hB c1, pw_cell_below hB c2⟩
       refine zL 17 none 19 262143 (fun K hK => ?_)
       obtain ⟨s0, s1, s2, s3⟩ := time_cells f16.2
       refine skip_ (w1 := ?_) (by rfl) rfl ?_ ?_
       rotate_left
       ·(go_simp; with_reducible rfl)
       refine hK.out _ _ ?_
       clear hK K
       refine zP 18 18 19 524287 ?_
       refine done_ (by kernel_rfl) ?_
       have hz := blk_two (x := .int .i64 T1) (y := .int .i64 T2) f16.2
       have hbF : Below w9.heap.size w9 ((w'.setCell ⟨g16, 0, none⟩ (.int .i64 T1)).setCell ⟨g16, 1, none⟩ (.int .i64 T2)) := (hB.setCell f16.1 _).setCell f16.1 _
       have HF := Aside0.mk (And.intro hz (H10.out.1.step hbF))
       generalize hFW : (w'.setCell ⟨g16, 0, none⟩ (.int .i64 T1)).setCell ⟨g16, 1, none⟩ (.int .i64 T2) = FW at *
       clear hz hbF hFW hB f8 f9 f10 f11 f12 f16 hHeld H10 q0 q1 q2 q3 c0 c1 c2
       obtain ⟨x0, x1, _, _⟩ := time_cells HF.out.1
       obtain ⟨s0, s1, s2, s3⟩ := time_cells HF.out.2.r
       by_cases h3 : T3 = 0
       ·subst h3
        go_wp2_with fail
        refine bodyPost_ret (results_ctt rfl _ _ (w.heap.size + 1) 37 #[.int .i64 T1, .int .i64 T2] (0, 0) _ rfl (blk_two HF.out.2.r) Try.underlying37 rfl (by kernel_rfl)) rfl ?_
        exact ⟨by rw [HV4.out.1]; rfl, (HF.out.2.below.setCell (by simp) _).setCell (by simp) _⟩
       ·have h3b : (T3 == 0) = false := beq_eq_false_iff_ne.mpr h3
        obtain ⟨rfl, rfl⟩ := HV4.out.2 h3
        go_wp2_with fail
        refine bodyPost_ret (results_ctt rfl _ _ (w.heap.size + 1) 37 #[.int .i64 0, .int .i64 0] (0, 0) _ rfl (blk_two HF.out.2.r) Try.underlying37 rfl (by kernel_rfl)) rfl ?_
        exact ⟨by rw [HV4.out.1, h3b]; rfl, (HF.out.2.below.setCell (by simp) _).setCell (by simp) _⟩
     ·have HQ := Aside0.mk (show ¬ q < qq b a1 ∧ ¬ q < qq (wrap64 (b + X.f0)) a1 from ⟨hq1, by rw [HW.out.1.2]; exact hq2⟩)
      have HL2 := Aside0.mk (show V = medR (medL a1 a2 q (b + X.f0) (l0.drop (i + 1).toNat)) by rw [HL.out]; simp only [medL]; rw [if_neg hq1, if_neg hq2])
      clear hq1 hq2 HL
      refine start_ (n := 13) (S := fun w' => w'.cell? ⟨gt, 0, none⟩ = some (.bool bb) ∧ w'.cell? ⟨gt, 1, none⟩ = some (.slice Au ku cu) ∧ w'.cell? ⟨gt, 2, none⟩ = some (.slice Ax kx cx)) (ds := []) (bs 13 0) (by kernel_rfl) rfl rfl ⟨(hM.out.step hb0).cells.1, (hM.out.step hb0).cells.2.1, (hM.out.step hb0).cells.2.2⟩ (fun hHeld => ?_)
      refine zP 1 51 13 2 ?_
      refine zP 2 52 13 6 ?_
      refine zT 0 50 13 7 hHeld ?_
      refine zN 3 (some 53) 13 15 (fun K hK => ?_)
      refine zG Try.func68 #[.int .i64 b, .int .i64 a1] ?_
      with_reducible refine (ratioM b a1 wr.drew HI.out.1.1.1 HI.out.1.1.2 HI.out.2.1.1 HI.out.2.1.2).mono ?_
      rintro e w5 ⟨v5, rfl, hb5, hm5⟩
      refine ⟨_, rfl, ?_⟩
      have hb5' := below_drew' hb5
      have H5 := Aside0.mk (And.intro hm5 (hM.out.step hb5'))
      clear hb5 hb5' hm5
      refine hK.out _ _ ⟨H5.out.2.cells.1, H5.out.2.cells.2.1, H5.out.2.cells.2.2⟩ (fun hHeld => ?_)
      clear hK K
      refine zM 53 ?_
      refine zN 4 (some 54) 13 31 (fun K hK => ?_)
      refine zG Try.func86 #[.agg #[.bool bb, .slice Au ku cu, .slice Ax kx cx], v5] ?_
      with_reducible refine (lessM_f (.agg #[.bool bb, .slice Au ku cu, .slice Ax kx cx]) v5 q (qq b a1) 3 3 w5 H5.out.2.m H5.out.1 (by decide) HQ.out.1).mono ?_
      rintro e w6 ⟨rfl, hb6⟩
      refine ⟨_, rfl, ?_⟩
      have H6 := Aside0.mk (H5.out.2.step hb6)
      clear hb6
      refine hK.out _ _ ⟨H6.out.cells.1, H6.out.cells.2.1, H6.out.cells.2.2⟩ (fun hHeld => ?_)
      clear hK K
      refine zM 54 ?_
      refine zP 5 55 13 63 ?_
      refine zP 6 56 13 127 ?_
      refine zP 8 58 13 383 ?_
      refine zP 9 59 13 895 ?_
      refine zT 7 57 13 1023 hHeld ?_
      refine zN 10 (some 60) 13 2047 (fun K hK => ?_)
      refine zG Try.func68 #[.int .i64 (wrap64 (b + X.f0)), .int .i64 a1] ?_
      with_reducible refine (ratioM (wrap64 (b + X.f0)) a1 w6 HI.out.1.2.1 HI.out.1.2.2 HI.out.2.1.1 HI.out.2.1.2).mono ?_
      rintro e w7 ⟨v7, rfl, hb7, hm7⟩
      refine ⟨_, rfl, ?_⟩
      have H7 := Aside0.mk (And.intro hm7 (H6.out.step hb7))
      clear hb7 hm7
      refine hK.out _ _ ⟨H7.out.2.cells.1, H7.out.2.cells.2.1, H7.out.2.cells.2.2⟩ (fun hHeld => ?_)
      clear hK K
      refine zM 60 ?_
      refine zN 11 (some 61) 13 4095 (fun K hK => ?_)
      refine zG Try.func86 #[.agg #[.bool bb, .slice Au ku cu, .slice Ax kx cx], v7] ?_
      with_reducible refine (lessM_f (.agg #[.bool bb, .slice Au ku cu, .slice Ax kx cx]) v7 q (qq (wrap64 (b + X.f0)) a1) 3 3 w7 H7.out.2.m H7.out.1 (by decide) HQ.out.2).mono ?_
      rintro e w8 ⟨rfl, hb8⟩
      refine ⟨_, rfl, ?_⟩
      have H8 := Aside0.mk (H7.out.2.step hb8)
      clear hb8
      refine hK.out _ _ ⟨H8.out.cells.1, H8.out.cells.2.1, H8.out.cells.2.2⟩ (fun hHeld => ?_)
      clear hK K
      refine zM 61 ?_
      refine zP 12 62 13 8191 ?_
      refine done_ (by kernel_rfl) ?_
      clear hHeld hb0 H5 H6 H7
      go_wp2_with fail
      go_roundg k1
      case measure => omega
      case rel => exact ⟨b + X.f0, i + 1, by rw [HW.out.1.2], by rw [HW.out.1.1], ⟨HW.out.2.1, HW.out.2.2, HA.out.sum⟩, ⟨HL2.out⟩, ⟨H8.out⟩⟩
   ·have hlb : decide (i < (l0.length : Int)) = false := decide_eq_false hlt
    have HV4 := Aside0.mk (show V = .tuple #[.agg #[.int .i64 0, .int .i64 1], .bool false, .int .i64 0] by
     rw [hL.out, List.drop_of_length_le (by have := hi.out; omega)]
     rfl)
    obtain ⟨p0, p1, f0, f1⟩ := time_cells hM.out.z
    obtain ⟨s0, s1, s2, s3⟩ := time_cells hM.out.r
    replace hlt := eq_false hlt
    clear hi hL
    go_wp2_with fail
    refine bodyPost_ret (results_ctt rfl _ _ (w.heap.size + 1) 37 #[.int .i64 0, .int .i64 1] (0, 0) _ rfl (blk_two hM.out.r) Try.underlying37 rfl (by kernel_rfl)) rfl ?_
    exact ⟨by rw [HV4.out]; rfl, (hM.out.below.setCell (by simp) _).setCell (by simp) _⟩
end Go.Proofs.Ytpbhepdgamoiaaa.Rm
namespace Go.Proofs.Ytpbhepdgamoiaaa.E
open Go.RowKit Go Go.Proofs.YtpbhepdgamoiaaaW.PrintWords Go.Proofs.YtpbhepdgamoiaaaW.PrintLast Go.Proofs.YtpbhepdgamoiaaaW.PrintMore Go.Proofs.Ytpbhepdgamoiaaa.Et Go.Proofs.Ytpbhepdgamoiaaa.Pe
def dioramaref10_Media.f (l0 : List Ed) (a1 : Int) (a2 : Int) (a3_0 : Int) (a3_1 : Int) : Option (Int × Int × Bool × Int) := some ((medV l0 a1 a2 a3_0 a3_1).1.1, (medV l0 a1 a2 a3_0 a3_1).1.2, (medV l0 a1 a2 a3_0 a3_1).2.1, (medV l0 a1 a2 a3_0 a3_1).2.2)
theorem dioramaref10_Media.calls (A0 : Option Addr) (c0 : Nat) (l0 : List Ed) (a1 : Int) (a2 : Int) (a3_0 : Int) (a3_1 : Int) (r1 : Int) (r2 : Int) (r3 : Bool) (r4 : Int) (w : World) (hr0 : Kd.C k77 w A0 l0.length l0) (hc0 : l0.length ≤ c0) (h : dioramaref10_Media.f l0 a1 a2 a3_0 a3_1 = some (r1, r2, r3, r4)) :
  Calls Try.prog 33 #[.slice A0 l0.length c0, .int .i64 a1, .int .i64 a2, .agg #[.int .i64 a3_0, .int .i64 a3_1]] w fun e w' => e = .returned (.tuple #[.agg #[.int .i64 r1, .int .i64 r2], .bool r3, .int .i64 r4]) ∧ Below w.heap.size w w' := by
 have hV : medR (medV l0 a1 a2 a3_0 a3_1) = .tuple #[.agg #[.int .i64 r1, .int .i64 r2], .bool r3, .int .i64 r4] := by
  unfold dioramaref10_Media.f at h
  simp only [Option.some.injEq, Prod.mk.injEq] at h
  unfold medR
  rw [h.1, h.2.1, h.2.2.1, h.2.2.2]
 rw [← hV]
 exact Rm.rMedia_n A0 c0 l0 a1 a2 a3_0 a3_1 w hr0 hc0
end Go.Proofs.Ytpbhepdgamoiaaa.E
namespace Go.Proofs.Ytpbhepdgamoiaaa.E
open Go.Proofs.Ytpbhepdgamoiaaa.Z Go.RowKit Go.Proofs.YtpbhepdgamoiaaaW.PrintWords Go.Proofs.YtpbhepdgamoiaaaW.PrintLast Go.Proofs.YtpbhepdgamoiaaaW.PrintMore
attribute [local go_sem] max2_int min2_int max_two min_two max_three min_three max_four min_four
set_option linter.unusedVariables false
set_option linter.unusedSimpArgs false
attribute [local go_sem high] eqA37
def dioramalaw10_EditMedia.f (k : Nat) (l0_0 : List (S77)) (a0_1 : Int) (a0_2 : Int) (a1_0 : Int) (a1_1 : Int) : Option (Bool) := (dioramalaw10_many.f l0_0).bind fun t747 => (if t747 = true then ((dioramalaw10_awake.f k).bind fun t748 => (some t748)) else ((edit_Media.f l0_0 a0_1 a0_2 a1_0 a1_1).bind fun bt749 => ((dioramaref10_Media.f l0_0 a0_1 a0_2 a1_0 a1_1).bind fun bt754 => (if (bt749.1 == bt754.1 && (bt749.2.1 == bt754.2.1)) = true then (if (bt749.2.2.1 == bt754.2.2.1) = true then (if bt749.2.2.2 = bt754.2.2.2 then ((dioramalaw10_awake.f k).bind fun t759 => (some t759)) else (some false)) else (some false)) else (some false)))))
set_option maxHeartbeats 8000000 in
set_option maxRecDepth 100000 in
theorem dioramalaw10_EditMedia.calls (k : Nat) (A0_0 : Option Addr) (c0_0 : Nat) (l0_0 : List (S77)) (a0_1 : Int) (a0_2 : Int) (a1_0 : Int) (a1_1 : Int) (r : Bool) (w : World) (hr0_0 : Kd.C k77 w A0_0 l0_0.length l0_0) (hc0_0 : l0_0.length ≤ c0_0) (h : dioramalaw10_EditMedia.f k l0_0 a0_1 a0_2 a1_0 a1_1 = some r) :
  Calls Try.prog 6 #[.agg #[.slice A0_0 l0_0.length c0_0, .int .i64 a0_1, .int .i64 a0_2], .agg #[.int .i64 a1_0, .int .i64 a1_1]] w fun e w' => e = .returned (.bool r) ∧ Below w.heap.size w w' := by
 have hu24 := Try.underlying24; have hu37 := Try.underlying37; have HR0_0 := Aside0.mk hr0_0; have HC0_0 := Aside0.mk hc0_0; clear hr0_0 hc0_0; have HB := Aside0.mk (Below.refl w.heap.size w); have H : ((dioramalaw10_many.f l0_0).bind fun t747 => (if t747 = true then ((dioramalaw10_awake.f k).bind fun t748 => (some t748)) else ((edit_Media.f l0_0 a0_1 a0_2 a1_0 a1_1).bind fun bt749 => ((dioramaref10_Media.f l0_0 a0_1 a0_2 a1_0 a1_1).bind fun bt754 => (if (bt749.1 == bt754.1 && (bt749.2.1 == bt754.2.1)) = true then (if (bt749.2.2.1 == bt754.2.2.1) = true then (if bt749.2.2.2 = bt754.2.2.2 then ((dioramalaw10_awake.f k).bind fun t759 => (some t759)) else (some false)) else (some false)) else (some false)))))) = some r := h
 clear h; obtain ⟨t747, A3, H⟩ := ob H
 by_cases c4 : t747 = true
 ·subst c4; rw [if_pos rfl] at H; obtain ⟨t748, A5, H⟩ := ob H; obtain rfl := Option.some.inj H
  go_enter Try.func6, Try.ntmps6
  go_wp2_with (first | ((with_reducible refine gate_dst (N := 2) rfl ?_); refine zB 2 24 #[.slice A0_0 l0_0.length c0_0, .int .i64 a0_1, .int .i64 a0_2] ?_; intro gb745 hg w6 hbox hb; have BK745 := Aside0.mk hbox; have GW745 := gz hg; have GE745 := gz hg; replace HB := bp hb; clear hb hbox hg) | ((with_reducible refine gate_dst (N := 3) rfl ?_); refine zB 3 37 #[.int .i64 a1_0, .int .i64 a1_1] ?_; intro gb746 hg w7 hbox hb; have BK746 := Aside0.mk hbox; have GW746 := gz hg; have GE746 := gz hg; replace HB := bp hb; have NB745_746 := Aside0.mk ((by rw [hg]; exact Nat.ne_of_lt (bl BK745) : gb745 ≠ gb746)); have NB746_745 := Aside0.mk ((by rw [hg]; exact Nat.ne_of_gt (bl BK745) : gb746 ≠ gb745)); replace BK745 := kb BK745 hb; clear hb hbox hg; have hnb8 := NB745_746.out; have hnc8 := NB746_745.out; obtain ⟨hcz9_0, hcz9_1, hcz9_2, hfz9_0, hfz9_1, hfz9_2⟩ := xc3 BK745) | ((with_reducible refine gate_callee (f := 19) rfl ?_); refine zC 13 Try.func19 #[.slice A0_0 l0_0.length c0_0] ?_; (with_reducible refine (dioramalaw10_many.calls _ _ l0_0 true _ ?side1 ?side2 A3.out).mono ?_); (case side1 => exact cz HR0_0); (case side2 => exact HC0_0.out); rintro e w' ⟨rfl, ⟨nd, rfl⟩⟩; refine ⟨_, rfl, ?_⟩) | ((with_reducible refine gate_callee (f := 20) rfl ?_); refine zC 14 Try.func20 #[] ?_; (with_reducible refine (dioramalaw10_awake.calls k  t748 _ A5.out).mono ?_); rintro e w10 ⟨rfl, hb⟩; refine ⟨_, rfl, ?_⟩; replace BK745 := kb BK745 hb; replace BK746 := kb BK746 hb; replace HB := bp hb; clear hb))
  go_ret
  exact ⟨ez, bz⟩
 ·obtain rfl := bf c4; rw [if_neg (show ¬ (false = true) by decide)] at H; obtain ⟨⟨t749, t750, t751, t752⟩, A11, H⟩ := ob H
  (try dsimp only at H)
  obtain ⟨⟨t754, t755, t756, t757⟩, A12, H⟩ := ob H
  (try dsimp only at H)
  by_cases c13 : (t749 == t754 && (t750 == t755)) = true
  ·rw [if_pos c13] at H; have c13b0 : (t749 == t754 && (t750 == t755)) = true := c13
   (try (have c13b1 : decide (t749 = t754 && (t750 == t755)) = true := by simpa using c13))
   (try (have c13b2 : (t749 == t754 && (t750 == t755)) = true := by simpa using c13))
   clear c13
   by_cases c14 : (t751 == t756) = true
   ·rw [if_pos c14] at H; have c14b0 : (t751 == t756) = true := c14
    (try (have c14b1 : decide (t751 = t756) = true := by simpa using c14))
    (try (have c14b2 : (t751 == t756) = true := by simpa using c14))
    clear c14
    by_cases c15 : t752 = t757
    ·rw [if_pos c15] at H; have c15b0 : (t752 == t757) = true := beq_iff_eq.mpr c15; have c15b1 : (t752 != t757) = false := bne_eq_false_iff_eq.mpr c15; clear c15; obtain ⟨t759, A16, H⟩ := ob H; obtain rfl := Option.some.inj H
     go_enter Try.func6, Try.ntmps6
     go_wp2_with (first | ((with_reducible refine gate_dst (N := 2) rfl ?_); refine zB 2 24 #[.slice A0_0 l0_0.length c0_0, .int .i64 a0_1, .int .i64 a0_2] ?_; intro gb745 hg w17 hbox hb; have BK745 := Aside0.mk hbox; have GW745 := gz hg; have GE745 := gz hg; replace HB := bp hb; clear hb hbox hg) | ((with_reducible refine gate_dst (N := 3) rfl ?_); refine zB 3 37 #[.int .i64 a1_0, .int .i64 a1_1] ?_; intro gb746 hg w18 hbox hb; have BK746 := Aside0.mk hbox; have GW746 := gz hg; have GE746 := gz hg; replace HB := bp hb; have NB745_746 := Aside0.mk ((by rw [hg]; exact Nat.ne_of_lt (bl BK745) : gb745 ≠ gb746)); have NB746_745 := Aside0.mk ((by rw [hg]; exact Nat.ne_of_gt (bl BK745) : gb746 ≠ gb745)); replace BK745 := kb BK745 hb; clear hb hbox hg; have hnb19 := NB745_746.out; have hnc19 := NB746_745.out; obtain ⟨hcz20_0, hcz20_1, hcz20_2, hfz20_0, hfz20_1, hfz20_2⟩ := xc3 BK745) | ((with_reducible refine gate_callee (f := 19) rfl ?_); refine zC 13 Try.func19 #[.slice A0_0 l0_0.length c0_0] ?_; (with_reducible refine (dioramalaw10_many.calls _ _ l0_0 false _ ?side1 ?side2 A3.out).mono ?_); (case side1 => exact cz HR0_0); (case side2 => exact HC0_0.out); rintro e w' ⟨rfl, ⟨nd, rfl⟩⟩; refine ⟨_, rfl, ?_⟩; (try (rw [drewN_self w18]; generalize hq_ : World.drewN w18 _ = w18; have n0_ : Aside0 (w18.heap[gb745]? = some (.cells #[.slice A0_0 l0_0.length c0_0, .int .i64 a0_1, .int .i64 a0_2] 24 (0, 0))) := ⟨by rw [← hq_]; exact kz⟩; have n1_ : Aside0 (w18.heap[gb746]? = some (.cells #[.int .i64 a1_0, .int .i64 a1_1] 37 (0, 0))) := ⟨by rw [← hq_]; exact kz⟩; have n2_ : Aside0 (Below w.heap.size w w18) := ⟨by rw [← hq_]; exact bz⟩; clear BK745 BK746 HB hq_; have BK745 := n0_; have BK746 := n1_; have HB := n2_; clear n0_ n1_ n2_)); obtain ⟨hcz21_0, hcz21_1, hfz21_0, hfz21_1⟩ := xc2 BK746; obtain ⟨hcy0, hcy1, hcy2, hfy0, hfy1, hfy2⟩ := xc3 BK745) | ((with_reducible refine gate_callee (f := 32) rfl ?_); refine zC 23 Try.func32 #[.slice A0_0 l0_0.length c0_0, .int .i64 a0_1, .int .i64 a0_2, .agg #[.int .i64 a1_0, .int .i64 a1_1]] ?_; (with_reducible refine (edit_Media.calls _ _ l0_0 a0_1 a0_2 a1_0 a1_1 t749 t750 t751 t752 _ ?side1 ?side2 A11.out).mono ?_); (case side1 => exact cz HR0_0); (case side2 => exact HC0_0.out); rintro e w22 ⟨rfl, hb⟩; refine ⟨_, rfl, ?_⟩; replace BK745 := kb BK745 hb; replace BK746 := kb BK746 hb; replace HB := bp hb; clear hb) | ((with_reducible refine gate_dst (N := 5) rfl ?_); refine zB 5 37 #[.int .i64 0, .int .i64 0] ?_; intro gb753 hg w23 hbox hb; have BK753 := Aside0.mk hbox; have GW753 := gz hg; have GE753 := gz hg; replace HB := bp hb; have NB745_753 := Aside0.mk ((by rw [hg]; exact Nat.ne_of_lt (bl BK745) : gb745 ≠ gb753)); have NB753_745 := Aside0.mk ((by rw [hg]; exact Nat.ne_of_gt (bl BK745) : gb753 ≠ gb745)); replace BK745 := kb BK745 hb; have NB746_753 := Aside0.mk ((by rw [hg]; exact Nat.ne_of_lt (bl BK746) : gb746 ≠ gb753)); have NB753_746 := Aside0.mk ((by rw [hg]; exact Nat.ne_of_gt (bl BK746) : gb753 ≠ gb746)); replace BK746 := kb BK746 hb; clear hb hbox hg; have hnb24 := NB753_745.out; have hnc24 := NB745_753.out; have hnb25 := NB753_746.out; have hnc25 := NB746_753.out; obtain ⟨hcz26_0, hcz26_1, hfz26_0, hfz26_1⟩ := xc2 BK753; obtain ⟨hcz27_0, hcz27_1, hcz27_2, hfz27_0, hfz27_1, hfz27_2⟩ := xc3 BK745; obtain ⟨hcz28_0, hcz28_1, hfz28_0, hfz28_1⟩ := xc2 BK746) | ((with_reducible refine gate_callee (f := 33) rfl ?_); refine zC 35 Try.func33 #[.slice A0_0 l0_0.length c0_0, .int .i64 a0_1, .int .i64 a0_2, .agg #[.int .i64 a1_0, .int .i64 a1_1]] ?_; (with_reducible refine (dioramaref10_Media.calls _ _ l0_0 a0_1 a0_2 a1_0 a1_1 t754 t755 t756 t757 _ ?side1 ?side2 A12.out).mono ?_); (case side1 => exact Kd.C_below HR0_0.out bz); (case side2 => exact HC0_0.out); rintro e w29 ⟨rfl, hb⟩; refine ⟨_, rfl, ?_⟩; replace BK745 := Aside0.mk (blk_below (g := gb745) (o := .cells #[.slice A0_0 l0_0.length c0_0, .int .i64 a0_1, .int .i64 a0_2] 24 (0, 0)) (by (with_reducible repeat (first | refine blk_drewN ?_ _ | refine blk_drew ?_ | refine blk_alloc ?_ _)); refine blk_far ?_ NB745_753.out _; (with_reducible repeat (first | refine blk_drewN ?_ _ | refine blk_drew ?_ | refine blk_alloc ?_ _)); refine blk_far ?_ NB745_753.out _; (with_reducible repeat (first | refine blk_drewN ?_ _ | refine blk_drew ?_ | refine blk_alloc ?_ _)); exact BK745.out) hb); replace BK746 := Aside0.mk (blk_below (g := gb746) (o := .cells #[.int .i64 a1_0, .int .i64 a1_1] 37 (0, 0)) (by (with_reducible repeat (first | refine blk_drewN ?_ _ | refine blk_drew ?_ | refine blk_alloc ?_ _)); refine blk_far ?_ NB746_753.out _; (with_reducible repeat (first | refine blk_drewN ?_ _ | refine blk_drew ?_ | refine blk_alloc ?_ _)); refine blk_far ?_ NB746_753.out _; (with_reducible repeat (first | refine blk_drewN ?_ _ | refine blk_drew ?_ | refine blk_alloc ?_ _)); exact BK746.out) hb); replace BK753 := Aside0.mk (blk_below (g := gb753) (o := .cells #[.int .i64 t749, .int .i64 t750] 37 (0, 0)) (by (with_reducible repeat (first | refine blk_drewN ?_ _ | refine blk_drew ?_ | refine blk_alloc ?_ _)); refine blk_put (cs := #[.int .i64 t749, .int .i64 0]) ?_ 1 _ rfl; (with_reducible repeat (first | refine blk_drewN ?_ _ | refine blk_drew ?_ | refine blk_alloc ?_ _)); refine blk_put (cs := #[.int .i64 0, .int .i64 0]) ?_ 0 _ rfl; (with_reducible repeat (first | refine blk_drewN ?_ _ | refine blk_drew ?_ | refine blk_alloc ?_ _)); exact BK753.out) hb); replace HB := bp hb; clear hb) | ((with_reducible refine gate_dst (N := 8) rfl ?_); refine zB 8 37 #[.int .i64 0, .int .i64 0] ?_; intro gb758 hg w30 hbox hb; have BK758 := Aside0.mk hbox; have GW758 := gz hg; have GE758 := gz hg; replace HB := bp hb; have NB745_758 := Aside0.mk ((by rw [hg]; exact Nat.ne_of_lt (bl BK745) : gb745 ≠ gb758)); have NB758_745 := Aside0.mk ((by rw [hg]; exact Nat.ne_of_gt (bl BK745) : gb758 ≠ gb745)); replace BK745 := kb BK745 hb; have NB746_758 := Aside0.mk ((by rw [hg]; exact Nat.ne_of_lt (bl BK746) : gb746 ≠ gb758)); have NB758_746 := Aside0.mk ((by rw [hg]; exact Nat.ne_of_gt (bl BK746) : gb758 ≠ gb746)); replace BK746 := kb BK746 hb; have NB753_758 := Aside0.mk ((by rw [hg]; exact Nat.ne_of_lt (bl BK753) : gb753 ≠ gb758)); have NB758_753 := Aside0.mk ((by rw [hg]; exact Nat.ne_of_gt (bl BK753) : gb758 ≠ gb753)); replace BK753 := kb BK753 hb; clear hb hbox hg; have hnb31 := NB758_745.out; have hnc31 := NB745_758.out; have hnb32 := NB758_746.out; have hnc32 := NB746_758.out; have hnb33 := NB758_753.out; have hnc33 := NB753_758.out; obtain ⟨hcz34_0, hcz34_1, hfz34_0, hfz34_1⟩ := xc2 BK758; obtain ⟨hcz35_0, hcz35_1, hfz35_0, hfz35_1⟩ := xc2 BK753) | (go_at_call 20; (with_reducible refine (dioramalaw10_awake.calls k  t759 _ A16.out).mono ?_); rintro e w36 ⟨rfl, hb⟩; replace BK745 := Aside0.mk (blk_below (g := gb745) (o := .cells #[.slice A0_0 l0_0.length c0_0, .int .i64 a0_1, .int .i64 a0_2] 24 (0, 0)) (by (with_reducible repeat (first | refine blk_drewN ?_ _ | refine blk_drew ?_ | refine blk_alloc ?_ _)); refine blk_far ?_ NB745_758.out _; (with_reducible repeat (first | refine blk_drewN ?_ _ | refine blk_drew ?_ | refine blk_alloc ?_ _)); refine blk_far ?_ NB745_758.out _; (with_reducible repeat (first | refine blk_drewN ?_ _ | refine blk_drew ?_ | refine blk_alloc ?_ _)); exact BK745.out) hb); replace BK746 := Aside0.mk (blk_below (g := gb746) (o := .cells #[.int .i64 a1_0, .int .i64 a1_1] 37 (0, 0)) (by (with_reducible repeat (first | refine blk_drewN ?_ _ | refine blk_drew ?_ | refine blk_alloc ?_ _)); refine blk_far ?_ NB746_758.out _; (with_reducible repeat (first | refine blk_drewN ?_ _ | refine blk_drew ?_ | refine blk_alloc ?_ _)); refine blk_far ?_ NB746_758.out _; (with_reducible repeat (first | refine blk_drewN ?_ _ | refine blk_drew ?_ | refine blk_alloc ?_ _)); exact BK746.out) hb); replace BK753 := Aside0.mk (blk_below (g := gb753) (o := .cells #[.int .i64 t749, .int .i64 t750] 37 (0, 0)) (by (with_reducible repeat (first | refine blk_drewN ?_ _ | refine blk_drew ?_ | refine blk_alloc ?_ _)); refine blk_far ?_ NB753_758.out _; (with_reducible repeat (first | refine blk_drewN ?_ _ | refine blk_drew ?_ | refine blk_alloc ?_ _)); refine blk_far ?_ NB753_758.out _; (with_reducible repeat (first | refine blk_drewN ?_ _ | refine blk_drew ?_ | refine blk_alloc ?_ _)); exact BK753.out) hb); replace BK758 := Aside0.mk (blk_below (g := gb758) (o := .cells #[.int .i64 t754, .int .i64 t755] 37 (0, 0)) (by (with_reducible repeat (first | refine blk_drewN ?_ _ | refine blk_drew ?_ | refine blk_alloc ?_ _)); refine blk_put (cs := #[.int .i64 t754, .int .i64 0]) ?_ 1 _ rfl; (with_reducible repeat (first | refine blk_drewN ?_ _ | refine blk_drew ?_ | refine blk_alloc ?_ _)); refine blk_put (cs := #[.int .i64 0, .int .i64 0]) ?_ 0 _ rfl; (with_reducible repeat (first | refine blk_drewN ?_ _ | refine blk_drew ?_ | refine blk_alloc ?_ _)); exact BK758.out) hb); replace HB := bp hb; clear hb))
     go_ret
     exact ⟨ez, bz⟩
    ·exact absurd (by have hq := Option.some.inj (A11.out.symm.trans A12.out); simp only [Prod.mk.injEq] at hq; simp [hq.1, hq.2.1, hq.2.2.1, hq.2.2.2]) c15
   ·exact absurd (by have hq := Option.some.inj (A11.out.symm.trans A12.out); simp only [Prod.mk.injEq] at hq; simp [hq.1, hq.2.1, hq.2.2.1, hq.2.2.2]) c14
  ·exact absurd (by have hq := Option.some.inj (A11.out.symm.trans A12.out); simp only [Prod.mk.injEq] at hq; simp [hq.1, hq.2.1, hq.2.2.1, hq.2.2.2]) c13
end Go.Proofs.Ytpbhepdgamoiaaa.E

namespace Go.Proofs.Ytpbhepdgamoiaaa.Me
open Go.RowKit Go Go.Proofs.YtpbhepdgamoiaaaW.PrintWords Go.Proofs.YtpbhepdgamoiaaaW.PrintLast Go.Proofs.YtpbhepdgamoiaaaW.PrintMore Go.Proofs.Ytpbhepdgamoiaaa.E Go.Proofs.Ytpbhepdgamoiaaa.Pe Go.Proofs.Ytpbhepdgamoiaaa.Pg Go.Proofs.Ytpbhepdgamoiaaa.Oe
set_option linter.unusedVariables false
set_option linter.unusedSimpArgs false
theorem pure_Me (l : List Ed) (ms ts n d : Int) : Ev (fun k => dioramalaw10_EditMedia.f k l ms ts n d) true := by
 refine Ev.congr (f := fun k => if 60 < l.length then ((dioramalaw10_awake.f k).bind fun t => (some t)) else ((dioramalaw10_awake.f k).bind fun t => (some t))) (fun k => ?_) ?_
 ·unfold dioramalaw10_EditMedia.f edit_Media.f dioramaref10_Media.f
  rw [many_f]
  simp only [Option.bind_some, decide_eq_true_eq, beq_self_eq_true, Bool.and_self, if_true]
 ·by_cases h1 : 60 < l.length
  ·exact Ev.congr (fun k => if_pos h1) (Ev.bind awake_f (Ev.now _))
  ·exact Ev.congr (fun k => if_neg h1) (Ev.bind awake_f (Ev.now _))
theorem walk_Me (a : Option Addr) (len c : Nat) (l : List Ed) (ms ts n d : Int) (w : World) (h : Eds w a len c l) (_ : (Lit.int .i64 ms).wf = true) (_ : (Lit.int .i64 ts).wf = true) (_ : (Lit.int .i64 n).wf = true) (_ : (Lit.int .i64 d).wf = true) :
  Calls Try.prog 6 #[.agg #[.slice a len c, .int .i64 ms, .int .i64 ts], .agg #[.int .i64 n, .int .i64 d]] w (fun e w' => e = .returned (.bool true) ∧ Below w.heap.size w w') := by
 obtain ⟨k, hk⟩ := (pure_Me l ms ts n d).rounds
 rw [← h.n]
 exact dioramalaw10_EditMedia.calls k a c l ms ts n d true w h.c h.h hk
end Go.Proofs.Ytpbhepdgamoiaaa.Me
namespace Go.Proofs.Ytpbhepdgamoiaaa.editMediaRow
open Go.ChangeShapes Go.WideShapes Go.ChangeAt Go.RowKit Go.Proofs.Ytpbhepdgamoiaaa.Oe
set_option linter.unusedVariables false
set_option maxRecDepth 100000 in
theorem lifted (os : Os) (started : os.Started) (H : Type) (enc : TypeId × Value → H) :
  ReturnsInHanded {} Try.checked os 6 .any (Rows.editMediaSpec.pre6 enc Try.prog Try.f6 Rows.editMediaRow.domain false) (Rows.editMediaSpec.post enc Try.prog Try.f6 false true false false) := by
 refine returnsInHanded_of_change_sized (C := Try.checked) own started (by kernel_rfl) Try.func6
  (ChangeSpec.witness6 (enc := enc) (C := Try.checked) false ⟨#[], #[.agg #[.slice none 0 0, .int .i64 0, .int .i64 0], .agg #[.int .i64 0, .int .i64 0]], []⟩ 8 (by kernel_rfl) (by kernel_rfl) (by kernel_rfl) (by kernel_rfl)) ?_
 intro W base args ds gs before hval0 hW hcnd hsz0 _
 have hval : ∀ (j : Nat) t v, Try.f6.params[j]? = some t → args[j]? = some v → Value.okWide Try.prog W .any base t v := hval0
 have hW' := hW
 obtain ⟨p, q, hA0, hV, rfl, hfz, hnd⟩ := hW
 have hA : DataW.TrodAll enc Try.prog W 0 (fun _ => true) true Try.f6.params.toList args.toList ds p := hA0
 rw [Try.params6] at hA hval
 obtain ⟨v0, vs0, d0, ds0, p0, q0, hargs, rfl, rfl, h0, r0⟩ := trodAll_cons hA
 obtain ⟨v1, vs1, d1, ds1, p1, q1, rfl, rfl, rfl, h1, r1⟩ := trodAll_cons r0
 obtain ⟨rfl, rfl, rfl⟩ := trodAll_nil r1
 obtain rfl : args = #[v0, v1] := by cases args; simp_all
 obtain ⟨rfl, rfl⟩ := trodVars_none hV
 have k0 := h0
 have lt0 : ∀ x ∈ p0, x.block < W.heap.size := by obtain ⟨m, hm⟩ := k0; exact DataW.trod_lt m _ _ _ hm
 obtain ⟨a0, len0, cap0, z0, m0, t0, rfl, w0, wm0, wt0⟩ := open_list (hval 0 24 v0 rfl rfl) h0
 have k1 := h1
 have lt1 : ∀ x ∈ p1, x.block < W.heap.size := by obtain ⟨m, hm⟩ := k1; exact DataW.trod_lt m _ _ _ hm
 obtain ⟨a1_0, a1_1, rfl, w1_0, w1_1⟩ := open_time (hval 1 37 v1 rfl rfl) h1
 clear hA0 hval0 hsz0
 refine (Me.walk_Me a0 len0 cap0 z0 m0 t0 a1_0 a1_1 W w0 wm0 wt0 w1_0 w1_1).mono fun e W' ⟨he, bel⟩ => ?_
 subst he
 exact ⟨_, rfl, _, _, _, [], _, [], hW', trodAll_mk1 (shut_bool Try.underlying4 _), (trodAll_cons_mk (Below.trod laidOut (by kernel_rfl) (of_decide_eq_true (by kernel_rfl)) k0 bel lt0) (trodAll_cons_mk (Below.trod laidOut (by kernel_rfl) (of_decide_eq_true (by kernel_rfl)) k1 bel lt1) trodAll_mk0)), rfl, bel.frame _, fun h => by cases h⟩
theorem over : Rows.editMediaRow.holds Try.pinned (OpenSpec.ofChange Rows.editMediaSpec) :=
 OpenClaim.holds_of_wide 6 Try.f6 rfl rfl rfl rfl rfl rfl rfl ⟨rfl, rfl, rfl, rfl, rfl⟩ rfl rfl rfl rfl rfl (by kernel_rfl) Try.func6 (by kernel_rfl)
  (of_decide_eq_true (by kernel_rfl)) (by unfold Func.isWrapper; first | (rw [if_pos (by decide +kernel)]; kernel_rfl) | (rw [if_neg (by decide +kernel)]; exact ⟨rfl, rfl⟩))
  (fun os started H enc _ => lifted os started H enc)
end Go.Proofs.Ytpbhepdgamoiaaa.editMediaRow
namespace Go.Proofs.Ytpbhepdgamoiaaa
theorem editMedia_holds : Rows.EditMediaSaid := editMediaRow.over
#print axioms editMedia_holds
end Go.Proofs.Ytpbhepdgamoiaaa

/-
  The reference's natural numbers: sums, differences, products, quotients, small ones. The reference divides. The reference's rational numbers as rational numbers. The reference's normal list is the same. What the reference tells of a list: its normal list, its first error, its length. The reference's whole number of a rational number. What a normal list shows, and how long it is. The reference's first error and length; lists compared. Two lists of edits with their errors, compared. EditFaster: a list that is so many times as fast is as the reference says. EditClocks: a list by other clocks is as the reference says. What a list by other clocks and a faster list show. Two lists that show the same are seen to. What is left of a list between two ticks, as a plain value, and that the code tells it. Lists put behind one another: slices.Grow and Concat, and what stands on them. The reference's cut list is the same.
-/
import Derived.Test.YtpbhepdgamoiaaaQREditPartse
import Derived.Test.YtpbhepdgamoiaaaQREditPartsc
import Derived.Outline
import Derived.Test.YtpbhepdgamoiaaaQREditPartsa
import Derived.Test.YtpbhepdgamoiaaaQREditPartsd
namespace Go.Proofs.Ytpbhepdgamoiaaa.Pb
open Go.RowKit Go.Proofs.Ytpbhepdgamoiaaa.P Go.Proofs.Ytpbhepdgamoiaaa.E Go.Proofs.YtpbhepdgamoiaaaW.PrintWords Go.Proofs.YtpbhepdgamoiaaaW.PrintLast Go.Proofs.Ytpbhepdgamoiaaa.Ml Go.Proofs.Ytpbhepdgamoiaaa.Mn Go.Proofs.Ytpbhepdgamoiaaa.Pa
set_option linter.unusedVariables false
set_option linter.unusedSimpArgs false
theorem nv_take_all {l : List Int} {n : Nat} (h : l.length ≤ n) : dv 1000000000 (l.take n) = dv 1000000000 l := by rw [List.take_of_length_le h]
theorem dg_snoc {l : List Int} {x : Int} (h : Dg 1000000000 l) (h0 : 0 ≤ x) (h1 : x < 1000000000) : Dg 1000000000 (l ++ [x]) := h.append (Dg.cons h0 h1 (Dg.nil _))
theorem w1 {i : Nat} (h : i ≤ 10000000) : wrap64 ((i : Int) + 1) = ((i + 1 : Nat) : Int) := by rw [w64 (by omega) (by omega)]; omega
theorem minus_l (a b : List Int) (ha : Dg 1000000000 a) (hb : Dg 1000000000 b) (hn : a.length ≤ 1000000) (hlb : b.length ≤ a.length) (hle : dv 1000000000 b ≤ dv 1000000000 a) :
  ∀ (d i : Nat) (out : List Int) (c : Int), i + d = a.length → out.length = i → Dg 1000000000 out → 0 ≤ c → c ≤ 1 → dv 1000000000 out = dv 1000000000 (a.take i) - dv 1000000000 (b.take i) + c * pw 1000000000 i →
  ∃ r, Ev (fun k => dioramaref02_Minus.l0 k a b out c (i : Int)) r ∧ Nn r ∧ dv 1000000000 r = dv 1000000000 a - dv 1000000000 b ∧ r.length ≤ a.length := by
 intro d
 induction d with
 | zero =>
  intro i out c hi hl hd h0 h1 hv
  obtain ⟨r, he, hc, hr, hlr⟩ := trimmed_f out hd (by omega)
  have hlt := dv_lt (by decide) hd
  rw [hl] at hlt
  rw [nv_take_all (by omega), nv_take_all (by omega)] at hv
  have c0 : c = 0 := by
   rcases (show c = 0 ∨ c = 1 by omega) with h | h
   ·exact h
   ·rw [h] at hv
    omega
  refine ⟨r, Ev.step (f := fun k => (dioramaref02_trimmed.f k out).bind fun t => some t) (fun k => ?_) (Ev.bind he (Ev.now _)), hc, by rw [hr, hv, c0]; omega, by omega⟩
  simp only [dioramaref02_Minus.l0]
  rw [if_neg (by omega)]
 | succ d ih =>
  intro i out c hi hl hd h0 h1 hv
  have hx := ha.getD (by decide) i
  have hy := hb.getD (by decide) i
  have e1 := dv_take_succ' 1000000000 a i
  have e2 := dv_take_succ' 1000000000 b i
  have e3 := pw_succ 1000000000 i
  generalize hxv : a.getD i 0 = x at *
  generalize hyv : b.getD i 0 = y at *
  have hw : wrap64 (wrap64 (x - y) - c) = x - y - c := by rw [w64 (x := x - y) (by omega) (by omega), w64 (by omega) (by omega)]
  have hw2 : wrap64 (x - y - c + 1000000000) = x - y - c + 1000000000 := w64 (by omega) (by omega)
  by_cases hneg : x - y - c < 0
  ·obtain ⟨r, he, h⟩ := ih (i + 1) (out ++ [x - y - c + 1000000000]) 1 (by omega) (by simp [hl]) (dg_snoc hd (by omega) (by omega)) (by decide) (by decide) (by
    rw [dv_snoc, hl, hv, e1, e2, e3]
    grind)
   refine ⟨r, Ev.step (fun k => ?_) he, h⟩
   simp only [dioramaref02_Minus.l0]
   rw [if_pos (by omega), digit_f, digit_f, hxv, hyv]
   simp only [Option.bind_some, hw, hw2]
   rw [if_pos hneg, if_pos (by omega), w1 (by omega)]
  ·obtain ⟨r, he, h⟩ := ih (i + 1) (out ++ [x - y - c]) 0 (by omega) (by simp [hl]) (dg_snoc hd (by omega) (by omega)) (by decide) (by decide) (by
    rw [dv_snoc, hl, hv, e1, e2]
    grind)
   refine ⟨r, Ev.step (fun k => ?_) he, h⟩
   simp only [dioramaref02_Minus.l0]
   rw [if_pos (by omega), digit_f, digit_f, hxv, hyv]
   simp only [Option.bind_some, hw, hw2]
   rw [if_neg hneg, if_pos (by omega), w1 (by omega)]
theorem len_le {a b : List Int} (ha : Nn a) (hb : Nn b) (h : dv 1000000000 b ≤ dv 1000000000 a) : b.length ≤ a.length := by
 refine Nat.le_of_not_lt fun hl => ?_
 have := dv_len (by decide) ha.dg hb hl
 omega
theorem minus_f (a b : List Int) (ha : Nn a) (hb : Nn b) (hn : a.length ≤ 1000000) (hle : dv 1000000000 b ≤ dv 1000000000 a) : ∃ r, Ev (fun k => dioramaref02_Minus.f k a b) r ∧ Nn r ∧ dv 1000000000 r = dv 1000000000 a - dv 1000000000 b ∧ r.length ≤ a.length :=
 minus_l a b ha.dg hb.dg hn (len_le ha hb hle) hle a.length 0 [] 0 (by omega) rfl (Dg.nil _) (by decide) (by decide) (by simp [dv])
theorem mulB {c x y o : Int} (hc0 : 0 ≤ c) (hc1 : c < 1000000000) (hx0 : 0 ≤ x) (hx1 : x < 1000000000) (hy0 : 0 ≤ y) (hy1 : y < 1000000000) (ho0 : 0 ≤ o) (ho1 : o < 1000000000) :
  wrap64 (wrap64 (o + wrap64 (x * y)) + c) = o + x * y + c ∧ 0 ≤ o + x * y + c ∧ wrap64 (Int.tdiv (o + x * y + c) 1000000000) = (o + x * y + c) / 1000000000 ∧ (o + x * y + c) / 1000000000 < 1000000000 := by
 obtain ⟨h1, h2⟩ := mul_lt_sq hx0 hx1 hy0 hy1
 have h2' : x * y ≤ 999999998000000001 := h2
 rw [w64 (x := x * y) (by omega) (by omega), w64 (x := o + x * y) (by omega) (by omega), w64 (x := o + x * y + c) (by omega) (by omega), tdivB (by omega), w64 (by omega) (by omega)]
 refine ⟨rfl, by omega, rfl, by omega⟩
set_option maxHeartbeats 1000000 in
theorem times_l1 (a b : List Int) (i : Nat) (x : Int) (hx : a.getD i 0 = x) (hi : i < a.length) (hb : Dg 1000000000 b) (hx0 : 0 ≤ x) (hx1 : x < 1000000000) (hn : a.length + b.length ≤ 1000000) :
  ∀ (d j : Nat) (out : List Int) (c : Int), j + d = b.length → Dg 1000000000 out → out.length = a.length + b.length → 0 ≤ c → c < 1000000000 → (∀ m, i + b.length ≤ m → out.getD m 0 = 0) →
  ∃ out', (∀ r, Ev (fun k => dioramaref02_Times.l0 k a b out' ((i + 1 : Nat) : Int)) r → Ev (fun k => dioramaref02_Times.l1 k a b out (i : Int) c (j : Int)) r) ∧ out'.length = a.length + b.length ∧ Dg 1000000000 out' ∧
   dv 1000000000 out' = dv 1000000000 out + c * pw 1000000000 (i + j) + x * dv 1000000000 (b.drop j) * pw 1000000000 (i + j) ∧ ∀ m, i + 1 + b.length ≤ m → out'.getD m 0 = 0 := by
 intro d
 induction d with
 | zero =>
  intro j out c hj hd hl h0 h1 hz
  obtain rfl : j = b.length := by omega
  have hend : ∀ (out : List Int) (j : Nat) r, b.length ≤ j → Ev (fun k => dioramaref02_Times.l0 k a b out ((i + 1 : Nat) : Int)) r → Ev (fun k => dioramaref02_Times.l1 k a b out (i : Int) 0 (j : Int)) r := by
   intro out j r hj he
   refine Ev.step (fun k => ?_) he
   simp only [dioramaref02_Times.l1]
   rw [if_neg (by omega), if_neg (by omega), w1 (by omega)]
  rw [List.drop_of_length_le (Nat.le_refl _)]
  by_cases hc : c = 0
  ·subst hc
   exact ⟨out, fun r he => hend out _ r (Nat.le_refl _) he, hl, hd, by simp [dv], fun m hm => hz m (by omega)⟩
  ·refine ⟨out.set (i + b.length) c, fun r he => ?_, by simp [hl], hd.set _ h0 h1, ?_, fun m hm => by rw [getD_set (by omega)]; exact hz m (by omega)⟩
   ·have h2 := hend (out.set (i + b.length) c) (b.length + 1) r (by omega) he
    refine Ev.step (fun k => ?_) h2
    have hw : wrap64 ((i : Int) + (b.length : Int)) = ((i + b.length : Nat) : Int) := by rw [w64 (by omega) (by omega)]; omega
    obtain ⟨g1, g2, g3, g4⟩ := mulB (o := 0) (y := 0) h0 h1 hx0 hx1 (by decide) (by decide) (by decide) (by decide)
    have e0 : (0 : Int) + x * 0 + c = c := by omega
    rw [e0] at g1 g3
    simp only [dioramaref02_Times.l1, hw, rd_nat, hx, Int.toNat_natCast]
    rw [if_neg (by omega), if_pos (by omega), if_pos (by omega), if_pos (by omega), if_pos (by omega), if_pos (by omega), digit_f, getD_ge (Nat.le_refl _), hz _ (Nat.le_refl _)]
    simp only [Option.bind_some, g1, g3]
    rw [tmodB h0, Int.emod_eq_of_lt h0 h1, Int.ediv_eq_zero_of_lt h0 h1, w1 (by omega)]
   ·rw [dv_set _ _ _ _ (by omega), hz _ (Nat.le_refl _)]
    simp [dv]
 | succ d ih =>
  intro j out c hj hd hl h0 h1 hz
  have hy := hb.getD (by decide) j
  have ho := hd.getD (by decide) (i + j)
  have c1 : (j : Int) < (b.length : Int) := by omega
  have c2 : 0 ≤ ((i + j : Nat) : Int) := by omega
  have c3 : ((i + j : Nat) : Int) < (out.length : Int) := by omega
  have c4 : 0 ≤ (i : Int) := by omega
  have c5 : (i : Int) < (a.length : Int) := by omega
  have c6 : i + j < out.length := by omega
  have c7 : j < b.length := by omega
  have hw : wrap64 ((i : Int) + (j : Int)) = ((i + j : Nat) : Int) := by rw [w64 (by omega) (by omega)]; omega
  have hw1 := w1 (i := j) (by omega)
  have HW := Aside0.mk (And.intro hw hw1)
  clear hw hw1
  generalize hyv : b.getD j 0 = y at *
  generalize hov : out.getD (i + j) 0 = o at *
  obtain ⟨g1, g2, g3, g4⟩ := mulB h0 h1 hx0 hx1 hy.1 hy.2 ho.1 ho.2
  have gm := Int.mul_ediv_add_emod (o + x * y + c) 1000000000
  have gr0 := Int.emod_nonneg (o + x * y + c) (show (1000000000 : Int) ≠ 0 by decide)
  have gr1 := Int.emod_lt_of_pos (o + x * y + c) (show (0 : Int) < 1000000000 by decide)
  have gq0 : 0 ≤ (o + x * y + c) / 1000000000 := Int.ediv_nonneg g2 (by decide)
  have gt := tmodB g2
  generalize (o + x * y + c) / 1000000000 = q at *
  generalize (o + x * y + c) % 1000000000 = r' at *
  have hs : r' + 1000000000 * q = c + (x * y + o) := by clear g1 g3 gt; omega
  have HG := Aside0.mk (And.intro g1 (And.intro g3 gt))
  clear g1 g3 gt gm
  obtain ⟨out', k1, k2, k3, k4, k5⟩ := ih (j + 1) (out.set (i + j) r') q (by omega) (hd.set _ gr0 gr1) (by simp [hl]) gq0 g4 (fun m hm => by rw [getD_set (by omega)]; exact hz m hm)
  refine ⟨out', fun r he => ?_, k2, k3, ?_, k5⟩
  ·refine Ev.step (fun k => ?_) (k1 r he)
   simp only [dioramaref02_Times.l1, HW.out.1, rd_nat, hx, Int.toNat_natCast]
   rw [if_pos c1, if_pos c2, if_pos c3, if_pos c4, if_pos c5, digit_f, hyv, hov]
   simp only [Option.bind_some, HG.out.1, HG.out.2.1, HG.out.2.2, HW.out.2]
  ·rw [k4, dv_set _ _ _ _ c6, hov, dv_drop 1000000000 b j c7, hyv, ← Nat.add_assoc, pw_succ]
   exact (mul_step hs).symm
theorem times_l0 (a b : List Int) (ha : Dg 1000000000 a) (hb : Dg 1000000000 b) (hn : a.length + b.length ≤ 1000000) :
  ∀ (d i : Nat) (out : List Int), i + d = a.length → Dg 1000000000 out → out.length = a.length + b.length → dv 1000000000 out = dv 1000000000 (a.take i) * dv 1000000000 b → (∀ m, i + b.length ≤ m → out.getD m 0 = 0) →
  ∃ r, Ev (fun k => dioramaref02_Times.l0 k a b out (i : Int)) r ∧ Nn r ∧ dv 1000000000 r = dv 1000000000 a * dv 1000000000 b ∧ r.length ≤ a.length + b.length := by
 intro d
 induction d with
 | zero =>
  intro i out hi hd hl hv hz
  obtain ⟨r, he, hc, hr, hlr⟩ := trimmed_f out hd (by omega)
  refine ⟨r, Ev.step (f := fun k => (dioramaref02_trimmed.f k out).bind fun t => some t) (fun k => ?_) (Ev.bind he (Ev.now _)), hc, by rw [hr, hv, nv_take_all (by omega)], by omega⟩
  simp only [dioramaref02_Times.l0]
  rw [if_neg (by omega)]
 | succ d ih =>
  intro i out hi hd hl hv hz
  have hx := ha.getD (by decide) i
  obtain ⟨out', k1, k2, k3, k4, k5⟩ := times_l1 a b i (a.getD i 0) rfl (by omega) hb hx.1 hx.2 hn b.length 0 out 0 (by omega) hd hl (by decide) (by decide) hz
  obtain ⟨r, he, h⟩ := ih (i + 1) out' (by omega) k3 k2 (by
   rw [k4, hv, dv_take_succ' _ a i]
   simp only [List.drop_zero, Nat.add_zero]
   grind) (fun m hm => k5 m (by omega))
  refine ⟨r, Ev.step (fun k => ?_) (k1 r he), h⟩
  simp only [dioramaref02_Times.l0]
  rw [if_pos (by omega)]
  rfl
theorem times_f (a b : List Int) (ha : Nn a) (hb : Nn b) (hn : a.length + b.length ≤ 1000000) : ∃ r, Ev (fun k => dioramaref02_Times.f k a b) r ∧ Nn r ∧ dv 1000000000 r = dv 1000000000 a * dv 1000000000 b ∧ r.length ≤ a.length + b.length := by
 have e1 : wrap64 ((a.length : Int) + (b.length : Int)) = ((a.length + b.length : Nat) : Int) := by rw [w64 (by omega) (by omega)]; omega
 obtain ⟨r, he, h⟩ := times_l0 a b ha.dg hb.dg hn a.length 0 (List.replicate (a.length + b.length) 0) (by omega) (Dg.replicate (by decide) _) (by simp) (by rw [dv_replicate]; simp [dv]) (fun m _ => by
  rw [List.getD_eq_getElem?_getD, List.getElem?_replicate]
  split <;> rfl)
 refine ⟨r, Ev.congr (fun k => ?_) he, h⟩
 simp only [dioramaref02_Times.f, e1, Int.toNat_natCast]
 rw [if_pos (by omega), if_pos (by omega)]
 rfl
end Go.Proofs.Ytpbhepdgamoiaaa.Pb
namespace Go.Proofs.Ytpbhepdgamoiaaa.Pc
open Go.RowKit Go.Proofs.Ytpbhepdgamoiaaa.P Go.Proofs.Ytpbhepdgamoiaaa.E Go.Proofs.YtpbhepdgamoiaaaW.PrintWords Go.Proofs.YtpbhepdgamoiaaaW.PrintLast Go.Proofs.Ytpbhepdgamoiaaa.Ml Go.Proofs.Ytpbhepdgamoiaaa.Mn Go.Proofs.Ytpbhepdgamoiaaa.Pa Go.Proofs.Ytpbhepdgamoiaaa.Pb
set_option linter.unusedVariables false
set_option linter.unusedSimpArgs false
theorem drop_set' {l : List Int} {i : Nat} {v : Int} : (l.set i v).drop (i + 1) = l.drop (i + 1) := by
 rw [List.drop_set]
 simp
theorem over_l1 (a b q rest : List Int) (i : Nat) (hb : Nn b) (hr : Nn rest) (hi : i < q.length) (hq : q.length ≤ 1000000) (hlb : b.length ≤ 100000) (hlr : rest.length ≤ 200000) (hbp : 0 < dv 1000000000 b) :
  ∀ (m : Nat) (low high : Int), high - low ≤ m → 0 ≤ low → low ≤ high → high ≤ 999999999 → low * dv 1000000000 b ≤ dv 1000000000 rest → dv 1000000000 rest < (high + 1) * dv 1000000000 b →
  ∃ t rest', 0 ≤ t ∧ t < 1000000000 ∧ Nn rest' ∧ dv 1000000000 rest = t * dv 1000000000 b + dv 1000000000 rest' ∧ dv 1000000000 rest' < dv 1000000000 b ∧ (∀ r, Ev (fun k => dioramaref02_Over.l0 k a b (q.set i t) rest' ((i : Int) - 1)) r → Ev (fun k => dioramaref02_Over.l1 k a b q rest (i : Int) low high) r) := by
 intro m
 induction m with
 | zero =>
  intro low high hm h0 h1 h2 hlo hhi
  obtain rfl : low = high := by omega
  obtain ⟨o, eo, ho, vo, lo⟩ := of_f low h0 (by omega)
  obtain ⟨p, ep, hp, vp, lp⟩ := times_f b o hb ho (by omega)
  have e1 : dv 1000000000 p = low * dv 1000000000 b := by rw [vp, vo, Int.mul_comm]
  obtain ⟨s, es, hs, vs, ls⟩ := minus_f rest p hr hp (by omega) (by omega)
  have e2 : (low + 1) * dv 1000000000 b = low * dv 1000000000 b + dv 1000000000 b := by rw [Int.add_mul]; omega
  refine ⟨low, s, h0, by omega, hs, by omega, by omega, fun r he => ?_⟩
  refine Ev.step (f := fun k => (dioramaref02_Of.f k low).bind fun t197 => ((dioramaref02_Times.f k b t197).bind fun t200 => ((dioramaref02_Minus.f k rest t200).bind fun t203 => (dioramaref02_Over.l0 k a b (q.set i low) t203 ((i : Int) - 1))))) (fun k => ?_) (Ev.bind eo (Ev.bind ep (Ev.bind es he)))
  simp only [dioramaref02_Over.l1, Int.toNat_natCast]
  rw [if_neg (by omega), if_pos (by omega), if_pos (by omega), w64 (by omega) (by omega)]
 | succ m ih =>
  intro low high hm h0 h1 h2 hlo hhi
  by_cases hlt : low < high
  ·have hmid : wrap64 (Int.tdiv (wrap64 (wrap64 (low + high) + 1)) 2) = (low + high + 1) / 2 := by
    rw [w64 (x := low + high) (by omega) (by omega), w64 (x := low + high + 1) (by omega) (by omega), Int.tdiv_eq_ediv_of_nonneg (by omega), w64 (by omega) (by omega)]
   have hm1 : low < (low + high + 1) / 2 := by omega
   have hm2 : (low + high + 1) / 2 ≤ high := by omega
   generalize (low + high + 1) / 2 = mid at *
   obtain ⟨o, eo, ho, vo, lo⟩ := of_f mid (by omega) (by omega)
   obtain ⟨p, ep, hp, vp, lp⟩ := times_f b o hb ho (by omega)
   have e1 : dv 1000000000 p = mid * dv 1000000000 b := by rw [vp, vo, Int.mul_comm]
   have ec := compare_f p rest hp hr (by omega) (by omega)
   rw [e1] at ec
   by_cases hc : mid * dv 1000000000 b ≤ dv 1000000000 rest
   ·obtain ⟨t, rest', g1, g2, g3, g4, g5, g6⟩ := ih mid high (by omega) (by omega) hm2 h2 hc hhi
    have hle : Nd.cmpI (mid * dv 1000000000 b) (dv 1000000000 rest) ≤ 0 := by
     unfold Nd.cmpI
     by_cases h2 : mid * dv 1000000000 b < dv 1000000000 rest
     ·rw [if_pos h2]; decide
     ·rw [if_neg h2, if_neg (by omega)]; decide
    refine ⟨t, rest', g1, g2, g3, g4, g5, fun r he => ?_⟩
    refine Ev.step (f := fun k => (dioramaref02_Of.f k mid).bind fun t206 => ((dioramaref02_Times.f k b t206).bind fun t209 => ((dioramaref02_Compare.f k t209 rest).bind fun t212 => (if t212 ≤ 0 then (dioramaref02_Over.l1 k a b q rest (i : Int) mid high) else (dioramaref02_Over.l1 k a b q rest (i : Int) low (wrap64 (mid - 1))))))) (fun k => ?_) (Ev.bind eo (Ev.bind ep (Ev.bind ec (Ev.congr (fun k => ?_) (g6 r he)))))
    ·simp only [dioramaref02_Over.l1, hmid]
     rw [if_pos hlt]
    ·rw [if_pos hle]
   ·have hw : wrap64 (mid - 1) = mid - 1 := w64 (by omega) (by omega)
    obtain ⟨t, rest', g1, g2, g3, g4, g5, g6⟩ := ih low (mid - 1) (by omega) h0 (by omega) (by omega) hlo (by rw [Int.sub_add_cancel]; omega)
    have hle : ¬ Nd.cmpI (mid * dv 1000000000 b) (dv 1000000000 rest) ≤ 0 := by
     rw [cmp2 (by omega)]; decide
    refine ⟨t, rest', g1, g2, g3, g4, g5, fun r he => ?_⟩
    refine Ev.step (f := fun k => (dioramaref02_Of.f k mid).bind fun t206 => ((dioramaref02_Times.f k b t206).bind fun t209 => ((dioramaref02_Compare.f k t209 rest).bind fun t212 => (if t212 ≤ 0 then (dioramaref02_Over.l1 k a b q rest (i : Int) mid high) else (dioramaref02_Over.l1 k a b q rest (i : Int) low (wrap64 (mid - 1))))))) (fun k => ?_) (Ev.bind eo (Ev.bind ep (Ev.bind ec (Ev.congr (fun k => ?_) (g6 r he)))))
    ·simp only [dioramaref02_Over.l1, hmid]
     rw [if_pos hlt]
    ·rw [if_neg hle, hw]
  ·exact ih low high (by omega) h0 h1 h2 hlo hhi
theorem over_l0 (a b : List Int) (ha : Dg 1000000000 a) (hb : Nn b) (hla : a.length ≤ 100000) (hlb : b.length ≤ 100000) (hbp : 0 < dv 1000000000 b) :
  ∀ (i : Nat) (q rest : List Int), i ≤ a.length → q.length = a.length → Dg 1000000000 q → Nn rest → dv 1000000000 rest < dv 1000000000 b → dv 1000000000 (a.drop i) = dv 1000000000 (q.drop i) * dv 1000000000 b + dv 1000000000 rest →
  ∃ r1 r2, Ev (fun k => dioramaref02_Over.l0 k a b q rest ((i : Int) - 1)) (r1, r2) ∧ Nn r1 ∧ Nn r2 ∧ dv 1000000000 a = dv 1000000000 r1 * dv 1000000000 b + dv 1000000000 r2 ∧ dv 1000000000 r2 < dv 1000000000 b ∧ r1.length ≤ a.length ∧ r2.length ≤ b.length := by
 have hlen : ∀ {l : List Int}, Nn l → dv 1000000000 l < dv 1000000000 b → l.length ≤ b.length := by
  intro l hl h
  refine Nat.le_of_not_lt fun h2 => ?_
  have := dv_len (by decide) hb.dg hl h2
  omega
 intro i
 induction i with
 | zero =>
  intro q rest _ hq dq hr hlt hv
  obtain ⟨r, he, hc, hvr, hlr⟩ := trimmed_f q dq (by omega)
  rw [List.drop_zero, List.drop_zero] at hv
  refine ⟨r, rest, Ev.step (f := fun k => (dioramaref02_trimmed.f k q).bind fun t => some (t, rest)) (fun k => ?_) (Ev.bind he (Ev.now _)), hc, hr, by rw [hvr]; exact hv, hlt, by omega, hlen hr hlt⟩
  simp [dioramaref02_Over.l0]
 | succ i ih =>
  intro q rest hi hq dq hr hlt hv
  have e : (((i + 1 : Nat) : Int) - 1) = (i : Int) := by omega
  have hx := ha.getD (by decide) i
  have hlr := hlen hr hlt
  obtain ⟨u, eu, hu, vu, lu⟩ := trimmed_f (a.getD i 0 :: rest) (Dg.cons hx.1 hx.2 hr.dg) (by simp; omega)
  have vu2 : dv 1000000000 u = a.getD i 0 + 1000000000 * dv 1000000000 rest := vu
  have r0 := dv_nonneg (by decide) hr.dg
  simp only [List.length_cons] at lu
  obtain ⟨t, rest', g1, g2, g3, g4, g5, g6⟩ := over_l1 a b q u i hb hu (by omega) (by omega) hlb (by omega) hbp 999999999 0 999999999 (by decide) (by decide) (by decide) (by decide) (by have := dv_nonneg (by decide) hu.dg ; omega) (by
   have : (1000000000 : Int) * (dv 1000000000 rest + 1) ≤ 1000000000 * dv 1000000000 b := Int.mul_le_mul_of_nonneg_left (by omega) (by decide)
   rw [vu2]
   omega)
  obtain ⟨r1, r2, he, h⟩ := ih (q.set i t) rest' (by omega) (by simpa using hq) (dq.set _ g1 g2) g3 g5 (by
   rw [dv_drop _ a i (by omega), dv_drop _ (q.set i t) i (by simp; omega), drop_set', getD_set_self (by omega), hv]
   have := vu2
   rw [g4] at this
   grind)
  refine ⟨r1, r2, ?_, h⟩
  rw [e]
  refine Ev.step (f := fun k => (dioramaref02_trimmed.f k (a.getD i 0 :: rest)).bind fun t193 => (dioramaref02_Over.l1 k a b q t193 (i : Int) 0 999999999)) (fun k => ?_) (Ev.bind eu (g6 _ he))
  simp only [dioramaref02_Over.l0, rd_nat, Option.bind_some, List.singleton_append, List.length_singleton]
  rw [if_pos (by omega), if_pos (by omega), if_pos (by omega), if_pos (by omega)]
theorem over_f (a b : List Int) (ha : Nn a) (hb : Nn b) (hla : a.length ≤ 100000) (hlb : b.length ≤ 100000) (hbp : 0 < dv 1000000000 b) :
  ∃ r1 r2, Ev (fun k => dioramaref02_Over.f k a b) (r1, r2) ∧ Nn r1 ∧ Nn r2 ∧ dv 1000000000 a = dv 1000000000 r1 * dv 1000000000 b + dv 1000000000 r2 ∧ dv 1000000000 r2 < dv 1000000000 b ∧ r1.length ≤ a.length ∧ r2.length ≤ b.length := by
 obtain ⟨r1, r2, he, h⟩ := over_l0 a b ha.dg hb hla hlb hbp a.length (List.replicate a.length 0) [] (Nat.le_refl _) (by simp) (Dg.replicate (by decide) _) (Cn.nil _) hbp (by rw [List.drop_of_length_le (Nat.le_refl _), List.drop_of_length_le (by simp)]; simp [dv])
 refine ⟨r1, r2, Ev.congr (fun k => ?_) he, h⟩
 simp only [dioramaref02_Over.f, Int.toNat_natCast]
 rw [if_pos (by omega), if_pos (by omega), w64 (by omega) (by omega)]
end Go.Proofs.Ytpbhepdgamoiaaa.Pc
namespace Go.Proofs.Ytpbhepdgamoiaaa.Qr
open Go.RowKit Go Go.Proofs.YtpbhepdgamoiaaaW.PrintWords Go.Proofs.YtpbhepdgamoiaaaW.PrintLast Go.Proofs.YtpbhepdgamoiaaaW.PrintMore Go.Proofs.Ytpbhepdgamoiaaa.Ml Go.Proofs.Ytpbhepdgamoiaaa.Mn Go.Proofs.Ytpbhepdgamoiaaa.Nd Go.Proofs.Ytpbhepdgamoiaaa.Pa Go.Proofs.Ytpbhepdgamoiaaa.Pb Go.Proofs.Ytpbhepdgamoiaaa.Rf Go.Proofs.Ytpbhepdgamoiaaa.Er Go.Proofs.Ytpbhepdgamoiaaa.Ek Go.Proofs.Ytpbhepdgamoiaaa.E Go.Proofs.Ytpbhepdgamoiaaa.Pe Go.Proofs.Ytpbhepdgamoiaaa.Pf
set_option linter.unusedVariables false
set_option linter.unusedSimpArgs false
structure RV (b : Bool) (x y : List Int) (q : Rat) (n : Nat) : Prop where
 nx : Nn x
 ny : Nn y
 pos : 0 < dv 1000000000 y
 eq : q = qq (sg b (dv 1000000000 x)) (dv 1000000000 y)
 lx : x.length ≤ n
 ly : y.length ≤ n
theorem RV.mono {b : Bool} {x y : List Int} {q : Rat} {n m : Nat} (h : RV b x y q n) (hm : n ≤ m) : RV b x y q m := ⟨h.nx, h.ny, h.pos, h.eq, Nat.le_trans h.lx hm, Nat.le_trans h.ly hm⟩
theorem RV.x0 {b : Bool} {x y : List Int} {q : Rat} {n : Nat} (h : RV b x y q n) : 0 ≤ dv 1000000000 x := dv_nonneg (by decide) h.nx.dg
theorem qq_parts {a b : Int} (hb : 0 < b) : ∃ g : Int, 0 < g ∧ a = (qq a b).num * g ∧ b = ((qq a b).den : Int) * g := by
 obtain ⟨h1, h2⟩ := rat_low (a := a) (b := b) (by omega)
 refine ⟨(Int.gcd a b : Nat), ?_, ?_, ?_⟩
 ·have := Int.gcd_pos_of_ne_zero_right a (show b ≠ 0 by omega)
  omega
 ·rw [← h1]
  unfold Ra.ratN Ea.lowN
  rw [if_neg (by omega)]
  exact (Int.ediv_mul_cancel (Int.gcd_dvd_left a b)).symm
 ·rw [← h2]
  unfold Ra.ratD Ea.lowD
  rw [if_neg (by omega)]
  exact (Int.ediv_mul_cancel (Int.gcd_dvd_right a b)).symm
theorem qq_lt {a b c d : Int} (hb : 0 < b) (hd : 0 < d) : qq a b < qq c d ↔ a * d < c * b := by
 obtain ⟨g, hg, e1, e2⟩ := qq_parts (a := a) hb
 obtain ⟨h, hh, e3, e4⟩ := qq_parts (a := c) hd
 rw [Rat.lt_iff]
 generalize (qq a b).num = N1 at *
 generalize ((qq a b).den : Int) = D1 at *
 generalize (qq c d).num = N2 at *
 generalize ((qq c d).den : Int) = D2 at *
 subst e1 e2 e3 e4
 have k1 : N1 * g * (D2 * h) = N1 * D2 * (g * h) := by grind
 have k2 : N2 * h * (D1 * g) = N2 * D1 * (g * h) := by grind
 rw [k1, k2]
 exact (Int.mul_lt_mul_right (Int.mul_pos hg hh)).symm
theorem RV.neg {b : Bool} {x y : List Int} {q : Rat} {n : Nat} (h : RV b x y q n) : RV (!b) x y (-q) n := by
 refine ⟨h.nx, h.ny, h.pos, ?_, h.lx, h.ly⟩
 rw [h.eq]
 unfold qq
 rw [Rat.neg_divInt]
 congr 1
 cases b <;> simp [sg]
end Go.Proofs.Ytpbhepdgamoiaaa.Qr
namespace Go.Proofs.Ytpbhepdgamoiaaa.Qn
open Go.RowKit Go Go.Proofs.YtpbhepdgamoiaaaW.PrintWords Go.Proofs.YtpbhepdgamoiaaaW.PrintLast Go.Proofs.YtpbhepdgamoiaaaW.PrintMore Go.Proofs.Ytpbhepdgamoiaaa.Ml Go.Proofs.Ytpbhepdgamoiaaa.Mn Go.Proofs.Ytpbhepdgamoiaaa.Nd Go.Proofs.Ytpbhepdgamoiaaa.Pa Go.Proofs.Ytpbhepdgamoiaaa.Pb Go.Proofs.Ytpbhepdgamoiaaa.Rf Go.Proofs.Ytpbhepdgamoiaaa.Er Go.Proofs.Ytpbhepdgamoiaaa.Ek Go.Proofs.Ytpbhepdgamoiaaa.E Go.Proofs.Ytpbhepdgamoiaaa.Pe Go.Proofs.Ytpbhepdgamoiaaa.Pf Go.Proofs.Ytpbhepdgamoiaaa.Pg Go.Proofs.Ytpbhepdgamoiaaa.Qr
set_option linter.unusedVariables false
set_option linter.unusedSimpArgs false
theorem qq_eq {a b c d : Int} (hb : b ≠ 0) (hd : d ≠ 0) : qq a b = qq c d ↔ a * d = c * b := by
 unfold qq
 exact Rat.divInt_eq_divInt_iff hb hd
theorem qq_div (a b : Int) : qq a b = (a : Rat) / (b : Rat) := by unfold qq; exact Rat.divInt_eq_div a b
theorem cmpQ_zero (p q : Rat) : (cmpQ p q == 0) = decide (p = q) := by
 unfold cmpQ
 by_cases h : p < q
 ·rw [if_pos h, decide_eq_false (by intro e; subst e; exact Rat.lt_irrefl h)]; rfl
 ·rw [if_neg h]
  by_cases h2 : q < p
  ·rw [if_pos h2, decide_eq_false (by intro e; subst e; exact Rat.lt_irrefl h2)]; rfl
  ·rw [if_neg h2, decide_eq_true (by grind)]; rfl
end Go.Proofs.Ytpbhepdgamoiaaa.Qn
namespace Go.Proofs.Ytpbhepdgamoiaaa.Qo
open Go.RowKit Go Go.Proofs.YtpbhepdgamoiaaaW.PrintWords Go.Proofs.YtpbhepdgamoiaaaW.PrintLast Go.Proofs.YtpbhepdgamoiaaaW.PrintMore Go.Proofs.Ytpbhepdgamoiaaa.Ml Go.Proofs.Ytpbhepdgamoiaaa.Mn Go.Proofs.Ytpbhepdgamoiaaa.Nd Go.Proofs.Ytpbhepdgamoiaaa.Pa Go.Proofs.Ytpbhepdgamoiaaa.Pb Go.Proofs.Ytpbhepdgamoiaaa.Rf Go.Proofs.Ytpbhepdgamoiaaa.Er Go.Proofs.Ytpbhepdgamoiaaa.Ek Go.Proofs.Ytpbhepdgamoiaaa.E Go.Proofs.Ytpbhepdgamoiaaa.Pe Go.Proofs.Ytpbhepdgamoiaaa.Pf Go.Proofs.Ytpbhepdgamoiaaa.Pg Go.Proofs.Ytpbhepdgamoiaaa.Qr Go.Proofs.Ytpbhepdgamoiaaa.Qn
set_option linter.unusedVariables false
set_option linter.unusedSimpArgs false
theorem RV.int {b : Bool} {x y : List Int} {z : Int} {n : Nat} (h : RV b x y (qq z 1) n) (hy : dv 1000000000 y = 1) : sg b (dv 1000000000 x) = z := by
 have e := h.eq
 rw [hy, qq_eq (by decide) (by decide)] at e
 omega
structure RZ (b : Bool) (x y : List Int) (z : Int) (n : Nat) : Prop where
 nx : Nn x
 ny : Nn y
 y1 : dv 1000000000 y = 1
 eq : sg b (dv 1000000000 x) = z
 lx : x.length ≤ n
 ly : y.length ≤ n
end Go.Proofs.Ytpbhepdgamoiaaa.Qo
namespace Go.Proofs.Ytpbhepdgamoiaaa.Qw
open Go.RowKit Go Go.Proofs.YtpbhepdgamoiaaaW.PrintWords Go.Proofs.YtpbhepdgamoiaaaW.PrintLast Go.Proofs.YtpbhepdgamoiaaaW.PrintMore Go.Proofs.Ytpbhepdgamoiaaa.Ml Go.Proofs.Ytpbhepdgamoiaaa.Mn Go.Proofs.Ytpbhepdgamoiaaa.Nd Go.Proofs.Ytpbhepdgamoiaaa.Pa Go.Proofs.Ytpbhepdgamoiaaa.Pb Go.Proofs.Ytpbhepdgamoiaaa.Pc Go.Proofs.Ytpbhepdgamoiaaa.Rf Go.Proofs.Ytpbhepdgamoiaaa.Er Go.Proofs.Ytpbhepdgamoiaaa.Ek Go.Proofs.Ytpbhepdgamoiaaa.E Go.Proofs.Ytpbhepdgamoiaaa.Pe Go.Proofs.Ytpbhepdgamoiaaa.Pf Go.Proofs.Ytpbhepdgamoiaaa.Qr Go.Proofs.Ytpbhepdgamoiaaa.Qn Go.Proofs.Ytpbhepdgamoiaaa.Ew
set_option linter.unusedVariables false
set_option linter.unusedSimpArgs false
theorem qq_one (z : Int) : qq z 1 = (z : Rat) := by
 rw [qq_div, show ((1 : Int) : Rat) = 1 from rfl]
 grind
theorem whV_qq {a b : Int} (hb : 0 < b) : whV (qq a b) = if a % b = 0 then (if 1099511627776 < a / b then (0, 2) else (a / b, 0)) else (0, 20) := by
 by_cases h : a % b = 0
 ·have e : qq a b = ((a / b : Int) : Rat) := by
   rw [← qq_one, qq_eq (by omega) (by decide)]
   have := Int.mul_ediv_add_emod a b
   rw [h, Int.add_zero] at this
   rw [Int.mul_one, Int.mul_comm]
   exact this.symm
  rw [if_pos h, e]
  unfold whV
  rw [if_pos (Rat.den_intCast _), Rat.num_intCast]
 ·rw [if_neg h]
  unfold whV
  refine if_neg fun hd => h ?_
  obtain ⟨g, hg, e1, e2⟩ := qq_parts (a := a) hb
  rw [hd] at e2
  have : b = g := by rw [e2]; simp
  rw [e1, this]
  exact Int.mul_emod_left _ _
theorem qq_nonneg {a b : Int} (ha : 0 ≤ a) (hb : 0 < b) : ¬ qq a b < 0 := by
 have e : (0 : Rat) = qq 0 1 := by unfold qq; simp
 rw [e, qq_lt hb (by decide)]
 omega
end Go.Proofs.Ytpbhepdgamoiaaa.Qw
namespace Go.Proofs.Ytpbhepdgamoiaaa.Nm
open Go.RowKit Go Go.Proofs.Ytpbhepdgamoiaaa.Rf Go.Proofs.Ytpbhepdgamoiaaa.Er Go.Proofs.Ytpbhepdgamoiaaa.Ek Go.Proofs.Ytpbhepdgamoiaaa.Et Go.Proofs.Ytpbhepdgamoiaaa.E Go.Proofs.Ytpbhepdgamoiaaa.Pe Go.Proofs.Ytpbhepdgamoiaaa.Pf Go.Proofs.Ytpbhepdgamoiaaa.Qr Go.Proofs.Ytpbhepdgamoiaaa.Qn Go.Proofs.Ytpbhepdgamoiaaa.Qw
set_option linter.unusedVariables false
set_option linter.unusedSimpArgs false
theorem qq_lt1 {a b c : Int} (hc : 0 < c) : qq a c < qq b c ↔ a < b := by
 rw [qq_lt hc hc]
 exact ⟨fun h => Int.lt_of_mul_lt_mul_right h (by omega), fun h => Int.mul_lt_mul_of_pos_right h hc⟩
theorem qq_le1 {a b c : Int} (hc : 0 < c) : qq a c ≤ qq b c ↔ a ≤ b := by
 rw [← Rat.not_lt, qq_lt1 hc]
 omega
theorem qq_add1 {a b c : Int} (hc : c ≠ 0) : qq (a + b) c = qq a c + qq b c := by
 unfold qq
 rw [Rat.divInt_add_divInt _ _ hc hc, ← Int.add_mul, Rat.divInt_mul_right hc]
theorem qq_lo (n e : Int) : qq (qq n e).num ((qq n e).den : Int) = qq n e := Rat.num_divInt_den _
theorem qq_zero (e : Int) : qq 0 e = 0 := by
 unfold qq
 simp
theorem qq_split {m t : Int} (ht : t ≠ 0) : qq m 1 = qq m t * qq t 1 := by
 unfold qq
 rw [Rat.divInt_mul_divInt, Int.mul_comm m t, Int.mul_one]
 conv => rhs; rw [show t = t * 1 by omega, Int.mul_assoc, Int.one_mul]
 rw [Rat.divInt_mul_left ht]
theorem qq_ne {t : Int} (ht : t ≠ 0) : qq t 1 ≠ 0 := by
 rw [qq_one]
 exact fun h => ht (by exact_mod_cast h)
theorem lt_le {a b c : Rat} (h : a < b) (h2 : b ≤ c) : a < c := Rat.not_le.1 fun h3 => Rat.not_le.2 h (Rat.le_trans h2 h3)
abbrev noV : (Int × Int) × Bool × Int := ((0, 1), false, 0)
def shV (ts : Int) (x : Ed) (p : Rat) : (Int × Int) × Bool × Int := if x.f1 < 0 then noV else ((tmV (qq x.f1 ts + p * qq x.f2 x.f3)).1, (tmV (qq x.f1 ts + p * qq x.f2 x.f3)).2 == 0, (tmV (qq x.f1 ts + p * qq x.f2 x.f3)).2)
theorem med_cons (ms ts : Int) (q : Rat) (b : Int) (x : Ed) (t : List Ed) : medL ms ts q b (x :: t) = if q < qq b ms then medL ms ts q (b + x.f0) t else if q < qq (b + x.f0) ms then shV ts x (q - qq b ms) else medL ms ts q (b + x.f0) t := rfl
theorem med_low {ms ts : Int} (hm : 0 < ms) {q : Rat} : ∀ (l : List Ed) (b : Int), (∀ x ∈ l, 0 ≤ x.f0) → q < qq b ms → medL ms ts q b l = noV
 | [], _, _, _ => rfl
 | x :: t, b, h, hq => by
  rw [med_cons, if_pos hq]
  exact med_low hm t _ (fun y hy => h y (by simp [hy])) (lt_le hq ((qq_le1 hm).2 (by have := h x (by simp); omega)))
theorem med_cong {ms ts : Int} {q : Rat} {u v : List Ed} (h : ∀ b, medL ms ts q b u = medL ms ts q b v) : ∀ (p : List Ed) (b : Int), medL ms ts q b (p ++ u) = medL ms ts q b (p ++ v)
 | [], b => h b
 | x :: t, b => by
  rw [List.cons_append, List.cons_append, med_cons, med_cons, med_cong h t]
theorem sh_low (ts : Int) (x : Ed) (p : Rat) : shV ts (lowV x) p = shV ts x p := by
 unfold shV lowV
 simp only [qq_lo]
theorem med_map {ms ts : Int} {q : Rat} : ∀ (l : List Ed) (b : Int), medL ms ts q b (l.map lowV) = medL ms ts q b l
 | [], b => rfl
 | x :: t, b => by
  rw [List.map_cons, med_cons, med_cons, sh_low]
  show (if q < qq b ms then medL ms ts q (b + x.f0) (t.map lowV) else if q < qq (b + x.f0) ms then shV ts x (q - qq b ms) else medL ms ts q (b + x.f0) (t.map lowV)) = _
  rw [med_map t]
theorem cmpQ_eq {p q : Rat} (h : cmpQ p q = 0) : p = q := by
 unfold cmpQ at h
 split at h
 ·cases h
 ·split at h
  ·cases h
  ·rename_i h1 h2
   exact Rat.le_antisymm (Rat.not_lt.1 h2) (Rat.not_lt.1 h1)
theorem ov_sh {ms ts : Int} {a e : Ed} (hm : 0 < ms) (ht : 0 < ts) (h : ovV ms ts a e = true) (p : Rat) : shV ts e p = shV ts a (p + qq a.f0 ms) := by
 unfold ovV overB kinB kB kS kN kE at h
 simp only [Bool.and_eq_true, Bool.or_eq_true, beq_iff_eq, decide_eq_decide, decide_eq_true_eq] at h
 obtain ⟨⟨h1, h2, h3, h4⟩, h5⟩ := h
 unfold shV
 by_cases hn : a.f1 < 0
 ·rw [if_pos hn, if_pos (h1.1 hn)]
 ·have hn' : ¬ e.f1 < 0 := fun h => hn (h1.2 h)
  rw [if_neg hn, if_neg hn'] at h2 h3 h4
  rw [if_neg hn, if_neg hn']
  have hq : qq e.f1 ts + p * qq e.f2 e.f3 = qq a.f1 ts + (p + qq a.f0 ms) * qq a.f2 a.f3 := by
   by_cases z : a.f2 = 0
   ·rw [if_pos z] at h2 h3 h4
    by_cases z' : e.f2 = 0
    ·rw [if_pos z'] at h2
     rw [z, z', qq_zero, qq_zero, h2]
     grind
    ·rw [if_neg z'] at h3
     exact absurd h3.symm z'
   ·rw [if_neg z] at h2 h3 h4
    by_cases z' : e.f2 = 0
    ·rw [if_pos z'] at h3
     exact absurd h3 z
    ·rw [if_neg z'] at h3 h4
     have h6 : cmpQ (afterQ ms ts a.f1 a.f2 a.f3 a.f0) (qq e.f1 1) = 0 := by
      rcases h5 with (h5 | h5) | h5
      ·exact absurd h5 hn
      ·exact absurd h5 z
      ·exact h5
     have h7 := cmpQ_eq h6
     unfold afterQ at h7
     rw [qq_split (m := a.f1) (t := ts) (by omega), qq_split (m := e.f1) (t := ts) (by omega)] at h7
     have h8 : qq e.f1 ts = qq a.f0 ms * qq a.f2 a.f3 + qq a.f1 ts := by
      have h9 := qq_ne (t := ts) (by omega)
      generalize qq ts 1 = T at h7 h9
      have : (qq a.f0 ms * qq a.f2 a.f3 + qq a.f1 ts - qq e.f1 ts) * T = 0 := by grind
      rcases Rat.mul_eq_zero.1 this with h | h
      ·grind
      ·exact absurd h h9
     rw [h8, ← h3, ← h4]
     grind
  rw [hq]
theorem med_two {ms ts : Int} {q : Rat} {a e : Ed} {t : List Ed} (hm : 0 < ms) (ht : 0 < ts) (ha : 0 ≤ a.f0) (he : 0 ≤ e.f0) (h : ovV ms ts a e = true) (b : Int) : medL ms ts q b (⟨a.f0 + e.f0, a.f1, a.f2, a.f3⟩ :: t) = medL ms ts q b (a :: e :: t) := by
 rw [med_cons, med_cons, med_cons]
 have l1 := (qq_le1 (a := b) (b := b + a.f0) hm).2 (by omega)
 have l2 := (qq_le1 (a := b + a.f0) (b := b + a.f0 + e.f0) hm).2 (by omega)
 have hs : ∀ p, shV ts (⟨a.f0 + e.f0, a.f1, a.f2, a.f3⟩ : Ed) p = shV ts a p := fun p => rfl
 rw [hs]
 show (if q < qq b ms then medL ms ts q (b + (a.f0 + e.f0)) t else if q < qq (b + (a.f0 + e.f0)) ms then shV ts a (q - qq b ms) else medL ms ts q (b + (a.f0 + e.f0)) t) = _
 rw [← Int.add_assoc]
 by_cases c1 : q < qq b ms
 ·rw [if_pos c1, if_pos c1, if_pos (lt_le c1 l1)]
 ·rw [if_neg c1, if_neg c1]
  by_cases c2 : q < qq (b + a.f0) ms
  ·rw [if_pos c2, if_pos (lt_le c2 l2)]
  ·rw [if_neg c2, if_neg c2]
   by_cases c3 : q < qq (b + a.f0 + e.f0) ms
   ·rw [if_pos c3, if_pos c3, ov_sh hm ht h]
    congr 1
    rw [qq_add1 (by omega)]
    grind
   ·rw [if_neg c3, if_neg c3]
theorem push_med {ms ts : Int} {q : Rat} (hm : 0 < ms) (ht : 0 < ts) {out : List Ed} {e : Ed} (h : ∀ x ∈ out, Wd x) (he : Wd e) (t : List Ed) (b : Int) : medL ms ts q b ((push ms ts out e).reverse ++ t) = medL ms ts q b (out.reverse ++ e :: t) := by
 cases out with
 | nil => rfl
 | cons a o =>
  have ha := (h a (by simp)).d0
  have hd := he.d0
  simp only [push]
  split
  ·rename_i ho
   simp only [List.reverse_cons, List.append_assoc, List.singleton_append]
   exact med_cong (fun b' => med_two hm ht (by omega) (by omega) ho b') _ b
  ·simp only [List.reverse_cons, List.append_assoc, List.singleton_append, List.cons_append, List.nil_append]
theorem nrmR_med {ms ts : Int} {q : Rat} (hm : 0 < ms) (ht : 0 < ts) : ∀ (l out : List Ed) (b : Int), (∀ x ∈ out, Wd x) → (∀ x ∈ l, Vd x) → medL ms ts q b (nrmR ms ts out l).reverse = medL ms ts q b (out.reverse ++ l.map lowV)
 | [], out, b, _, _ => by simp [nrmR]
 | x :: t, out, b, h, hV => by
  have hw := wd_low (hV x (by simp))
  have hn : nrmR ms ts out (x :: t) = nrmR ms ts (push ms ts out (lowV x)) t := rfl
  rw [hn, nrmR_med hm ht t _ b (push_wd h hw) (fun y hy => hV y (by simp [hy])), push_med hm ht h hw]
  rfl
theorem nrm_med {ms ts : Int} {q : Rat} (hc : Ck ms ts) {l : List Ed} (hV : ∀ x ∈ l, Vd x) (b : Int) : medL ms ts q b (nrm ms ts l) = medL ms ts q b l := by
 unfold nrm
 rw [nrmR_med (by have := hc.m0; omega) (by have := hc.t0; omega) l [] b (by simp) hV]
 exact med_map l b
def Em1 (x : Ed) : Prop := x.f1 < 0 → x.f2 = 1 ∧ x.f3 = 1
theorem em_low {x : Ed} (h : Em1 x) : Em1 (lowV x) := by
 intro hm
 have := h hm
 unfold lowV
 simp only
 rw [this.1, this.2]
 decide
theorem push_em {ms ts : Int} {out : List Ed} {e : Ed} (h : ∀ x ∈ out, Em1 x) (he : Em1 e) : ∀ x ∈ push ms ts out e, Em1 x := by
 cases out with
 | nil => simpa [push] using he
 | cons a t =>
  have ha := h a (by simp)
  simp only [push]
  split
  ·intro x hx
   simp only [List.mem_cons] at hx
   rcases hx with rfl | hx
   ·exact ha
   ·exact h x (by simp [hx])
  ·intro x hx
   simp only [List.mem_cons] at hx
   rcases hx with rfl | hx
   ·exact he
   ·exact h x (by simpa using hx)
theorem nrmR_wd {ms ts : Int} : ∀ (l out : List Ed), (∀ x ∈ out, Wd x ∧ Em1 x) → (∀ x ∈ l, Vd x) → ∀ x ∈ nrmR ms ts out l, Wd x ∧ Em1 x
 | [], out, h, _ => h
 | x :: t, out, h, hV => by
  have hx := hV x (by simp)
  have hn : nrmR ms ts out (x :: t) = nrmR ms ts (push ms ts out (lowV x)) t := rfl
  rw [hn]
  refine nrmR_wd t _ (fun y hy => ⟨push_wd (fun z hz => (h z hz).1) (wd_low hx) y hy, push_em (fun z hz => (h z hz).2) (em_low hx.em) y hy⟩) (fun y hy => hV y (by simp [hy]))
theorem le_sum : ∀ (l : List Ed), (∀ x ∈ l, Wd x) → ∀ x ∈ l, x.f0 ≤ sumD l
 | [], _, x, hx => by cases hx
 | y :: t, h, x, hx => by
  have h0 := (h y (by simp)).d0
  have hs := wd_sum (l := t) (fun z hz => h z (by simp [hz]))
  simp only [sumD]
  rcases List.mem_cons.1 hx with rfl | hx
  ·omega
  ·have := le_sum t (fun z hz => h z (by simp [hz])) x hx
   omega
theorem nrm_vd {ms ts : Int} {l : List Ed} (hV : ∀ x ∈ l, Vd x) (hs : sumD l ≤ 1099511627776) : ∀ x ∈ nrm ms ts l, Vd x := by
 have h := nrmR_wd (ms := ms) (ts := ts) l [] (by simp) hV
 have h1 : ∀ x ∈ nrm ms ts l, Wd x ∧ Em1 x := fun x hx => h x (List.mem_reverse.1 hx)
 have h2 := le_sum (nrm ms ts l) (fun x hx => (h1 x hx).1)
 rw [nrm_sum] at h2
 intro x hx
 have hw := (h1 x hx).1
 have := h2 x hx
 exact ⟨hw.d0, by omega, hw.m0, hw.m1, hw.n0, hw.n1, hw.e0, hw.e1, (h1 x hx).2⟩
theorem nrmV_ok {ms ts : Int} (hc : Ck ms ts) {l : List Ed} (hV : ∀ x ∈ l, Vd x) (h : (nrmV ms ts l).2 = 0) : nrmV ms ts l = (nrm ms ts l, 0) ∧ chk (nrm ms ts l) ms ts = 0 ∧ sumD l ≤ 1099511627776 := by
 unfold nrmV at h ⊢
 by_cases h1 : 1099511627776 < sumD l
 ·rw [if_pos h1] at h
  cases h
 ·rw [if_neg h1] at h ⊢
  unfold fin at h ⊢
  by_cases h2 : 20 < (nrmR ms ts [] l).length
  ·rw [if_pos h2] at h
   cases h
  ·rw [if_neg h2]
   refine ⟨rfl, chk_ok.2 ⟨hc, ?_, nrm_vd hV (by omega), ?_⟩, by omega⟩
   ·unfold nrm
    rw [List.length_reverse]
    omega
   ·rw [nrm_sum]
    omega
def Apart (ms ts : Int) : List Ed → Prop
 | [] => True
 | [_] => True
 | x :: y :: t => ovV ms ts y x = false ∧ Apart ms ts (y :: t)
theorem push_apart {ms ts : Int} {out : List Ed} (e : Ed) (h : Apart ms ts out) : Apart ms ts (push ms ts out e) := by
 cases out with
 | nil => trivial
 | cons a t =>
  simp only [push]
  split
  ·cases t with
   | nil => trivial
   | cons y t => exact ⟨h.1, h.2⟩
  ·rename_i ho
   exact ⟨by simpa using ho, h⟩
theorem low_low (x : Ed) : lowV (lowV x) = lowV x := by
 unfold lowV
 simp only [qq_lo]
theorem push_low {ms ts : Int} {out : List Ed} {e : Ed} (h : ∀ x ∈ out, lowV x = x) (he : lowV e = e) : ∀ x ∈ push ms ts out e, lowV x = x := by
 cases out with
 | nil => simpa [push] using he
 | cons a t =>
  have ha := h a (by simp)
  simp only [push]
  split
  ·intro x hx
   simp only [List.mem_cons] at hx
   rcases hx with rfl | hx
   ·unfold lowV at ha ⊢
    have h2 : (qq a.f2 a.f3).num = a.f2 := congrArg (fun z : Ed => z.f2) ha
    have h3 : ((qq a.f2 a.f3).den : Int) = a.f3 := congrArg (fun z : Ed => z.f3) ha
    simp only [h2, h3]
   ·exact h x (by simp [hx])
  ·intro x hx
   simp only [List.mem_cons] at hx
   rcases hx with rfl | hx
   ·exact he
   ·exact h x (by simpa using hx)
theorem nrmR_keep {ms ts : Int} : ∀ (l out : List Ed), Apart ms ts out → (∀ x ∈ out, lowV x = x) → Apart ms ts (nrmR ms ts out l) ∧ ∀ x ∈ nrmR ms ts out l, lowV x = x
 | [], out, h, h2 => ⟨h, h2⟩
 | x :: t, out, h, h2 => nrmR_keep t (push ms ts out (lowV x)) (push_apart _ h) (push_low h2 (low_low x))
end Go.Proofs.Ytpbhepdgamoiaaa.Nm
namespace Go.Proofs.Ytpbhepdgamoiaaa.Qp
open Go.RowKit Go Go.Proofs.YtpbhepdgamoiaaaW.PrintWords Go.Proofs.YtpbhepdgamoiaaaW.PrintLast Go.Proofs.YtpbhepdgamoiaaaW.PrintMore Go.Proofs.Ytpbhepdgamoiaaa.Ml Go.Proofs.Ytpbhepdgamoiaaa.Mn Go.Proofs.Ytpbhepdgamoiaaa.Nd Go.Proofs.Ytpbhepdgamoiaaa.Pa Go.Proofs.Ytpbhepdgamoiaaa.Pb Go.Proofs.Ytpbhepdgamoiaaa.Rf Go.Proofs.Ytpbhepdgamoiaaa.Er Go.Proofs.Ytpbhepdgamoiaaa.Ek Go.Proofs.Ytpbhepdgamoiaaa.E Go.Proofs.Ytpbhepdgamoiaaa.Pe Go.Proofs.Ytpbhepdgamoiaaa.Pf Go.Proofs.Ytpbhepdgamoiaaa.Pg Go.Proofs.Ytpbhepdgamoiaaa.Qr Go.Proofs.Ytpbhepdgamoiaaa.Qn Go.Proofs.Ytpbhepdgamoiaaa.Qo
set_option linter.unusedVariables false
set_option linter.unusedSimpArgs false
theorem nrmV_ok {l : List Ed} {ms ts : Int} (h : chk l ms ts = 0) : nrmV ms ts l = (nrm ms ts l, 0) := by
 obtain ⟨hc, hl, hV, hs⟩ := chk_ok.1 h
 have := nrmR_len ms ts l []
 simp only [List.length_nil] at this
 unfold nrmV fin nrm
 rw [if_neg (by omega), if_neg (by omega)]
end Go.Proofs.Ytpbhepdgamoiaaa.Qp
namespace Go.Proofs.Ytpbhepdgamoiaaa.Qe
open Go.RowKit Go Go.Proofs.YtpbhepdgamoiaaaW.PrintWords Go.Proofs.YtpbhepdgamoiaaaW.PrintLast Go.Proofs.YtpbhepdgamoiaaaW.PrintMore Go.Proofs.Ytpbhepdgamoiaaa.Mn Go.Proofs.Ytpbhepdgamoiaaa.Er Go.Proofs.Ytpbhepdgamoiaaa.Ek Go.Proofs.Ytpbhepdgamoiaaa.E Go.Proofs.Ytpbhepdgamoiaaa.Pe Go.Proofs.Ytpbhepdgamoiaaa.Pf Go.Proofs.Ytpbhepdgamoiaaa.Pg
set_option linter.unusedVariables false
set_option linter.unusedSimpArgs false
theorem eqEdits_l (a b : List Ed) (hl : a.length ≤ 1000000) (ra : List Ed) : ∀ (pre rb : List Ed), a = pre ++ ra → b = pre ++ rb → ra.length = rb.length → Ev (fun k => dioramaref00_EqEdits.l0 k a b (pre.length : Int)) (decide (ra = rb)) := by
 induction ra with
 | nil =>
  intro pre rb ha hb hr
  have : rb = [] := by cases rb with | nil => rfl | cons _ _ => simp at hr
  subst this
  refine Ev.step (f := fun _ => some (decide (([] : List Ed) = []))) (fun k => ?_) (Ev.now _)
  simp only [dioramaref00_EqEdits.l0]
  rw [if_neg (by rw [ha]; simp)]
  simp
 | cons x t ih =>
  intro pre rb ha hb hr
  cases rb with
  | nil => simp at hr
  | cons y u =>
   have hx : rd_T77 a (pre.length : Int) = x := by rw [ha]; exact rd_at pre x t
   have hy : rd_T77 b (pre.length : Int) = y := by rw [hb]; exact rd_at pre y u
   have hla : a.length = pre.length + (t.length + 1) := by rw [ha]; simp
   have hlb : b.length = pre.length + (u.length + 1) := by rw [hb]; simp
   simp only [List.length_cons, Nat.add_right_cancel_iff] at hr
   by_cases hxy : x = y
   ·subst hxy
    have hi := ih (pre ++ [x]) u (by rw [ha]; simp) (by rw [hb]; simp) hr
    have e : decide (x :: t = x :: u) = decide (t = u) := by simp
    rw [e]
    refine Ev.step (fun k => ?_) hi
    simp only [dioramaref00_EqEdits.l0]
    rw [if_pos (by omega), if_pos (by omega), if_pos (by omega), hx, hy, ed_ne, if_neg (by simp), w64 (by omega) (by omega)]
    simp
   ·rw [decide_eq_false (by intro h; injection h with h _; exact hxy h)]
    refine Ev.step (f := fun _ => some false) (fun k => ?_) (Ev.now _)
    simp only [dioramaref00_EqEdits.l0]
    rw [if_pos (by omega), if_pos (by omega), if_pos (by omega), hx, hy, ed_ne, if_pos (by simpa using hxy)]
theorem eqEdits_f (a b : List Ed) (hl : a.length ≤ 1000000) : Ev (fun k => dioramaref00_EqEdits.f k a b) (decide (a = b)) := by
 by_cases h : a.length = b.length
 ·refine Ev.congr (fun k => ?_) (eqEdits_l a b hl a [] b rfl rfl h)
  unfold dioramaref00_EqEdits.f
  rw [if_pos (by omega)]; rfl
 ·rw [decide_eq_false (fun e => h (by rw [e]))]
  refine Ev.congr (fun k => ?_) (Ev.now _)
  unfold dioramaref00_EqEdits.f
  rw [if_neg (by omega)]
end Go.Proofs.Ytpbhepdgamoiaaa.Qe
namespace Go.Proofs.Ytpbhepdgamoiaaa.Fr
open Go.RowKit Go Go.Proofs.YtpbhepdgamoiaaaW.PrintWords Go.Proofs.YtpbhepdgamoiaaaW.PrintLast Go.Proofs.YtpbhepdgamoiaaaW.PrintMore Go.Proofs.Ytpbhepdgamoiaaa.Mn Go.Proofs.Ytpbhepdgamoiaaa.Rf Go.Proofs.Ytpbhepdgamoiaaa.Er Go.Proofs.Ytpbhepdgamoiaaa.Ek Go.Proofs.Ytpbhepdgamoiaaa.E Go.Proofs.Ytpbhepdgamoiaaa.Pe Go.Proofs.Ytpbhepdgamoiaaa.Pf Go.Proofs.Ytpbhepdgamoiaaa.Pg Go.Proofs.Ytpbhepdgamoiaaa.Qr Go.Proofs.Ytpbhepdgamoiaaa.Qn Go.Proofs.Ytpbhepdgamoiaaa.Qo Go.Proofs.Ytpbhepdgamoiaaa.Qp Go.Proofs.Ytpbhepdgamoiaaa.Qe Go.Proofs.Ytpbhepdgamoiaaa.Qw Go.Proofs.Ytpbhepdgamoiaaa.Oe
set_option linter.unusedVariables false
set_option linter.unusedSimpArgs false
def mapE (f : Ed → Int × Ed) (fin : List Ed → List Ed × Int) : List Ed → List Ed → List Ed × Int
 | out, [] => fin out
 | out, x :: t => if (f x).1 = 0 then mapE f fin (out ++ [(f x).2]) t else ([], (f x).1)
theorem mapE_ok {f : Ed → Int × Ed} {fin : List Ed → List Ed × Int} {out : List Ed} {x : Ed} {t : List Ed} {y : Ed} (h : f x = (0, y)) : mapE f fin out (x :: t) = mapE f fin (out ++ [y]) t := by
 simp only [mapE]
 rw [h, if_pos rfl]
theorem mapE_err {f : Ed → Int × Ed} {fin : List Ed → List Ed × Int} {out : List Ed} {x : Ed} {t : List Ed} {y : Ed} {e : Int} (h : f x = (e, y)) (he : e ≠ 0) : mapE f fin out (x :: t) = ([], e) := by
 simp only [mapE]
 rw [h, if_neg he]
def fstE (num den d : Int) (x : Ed) : Ed := if 0 ≤ x.f1 ∧ 0 < x.f2 then lowV ⟨d, x.f1, x.f2 * num, x.f3 * den⟩ else ⟨d, x.f1, x.f2, x.f3⟩
def fastV (num den : Int) (x : Ed) : Int × Ed :=
 if x.f0 * den % num = 0 then
  (if (0 ≤ x.f1 ∧ 0 < x.f2) ∧ (1000 < (fstE num den (x.f0 * den / num) x).f2 ∨ 1000 < (fstE num den (x.f0 * den / num) x).f3) then (33, x)
     else if 1099511627776 < x.f0 * den / num then (2, x) else (0, fstE num den (x.f0 * den / num) x))
 else (20, x)
theorem fastV_eq (num den : Int) (x : Ed) : fastV num den x =
 if x.f0 * den % num = 0 then
  (if (0 ≤ x.f1 ∧ 0 < x.f2) ∧ (1000 < (fstE num den (x.f0 * den / num) x).f2 ∨ 1000 < (fstE num den (x.f0 * den / num) x).f3) then (33, x)
     else if 1099511627776 < x.f0 * den / num then (2, x) else (0, fstE num den (x.f0 * den / num) x))
 else (20, x) := rfl
structure Rt (num den : Int) : Prop where
 n0 : 1 ≤ num
 n1 : num ≤ 1000
 d0 : 1 ≤ den
 d1 : den ≤ 1000
theorem prod_bd {a b : Int} (A B : Int) (ha : 1 ≤ a) (hA : a ≤ A) (hb : 1 ≤ b) (hB : b ≤ B) : 1 ≤ a * b ∧ a * b ≤ A * B := by
 have h1 := Int.mul_le_mul hA hB (by omega) (by omega)
 have h2 := Int.mul_pos (show 0 < a by omega) (show 0 < b by omega)
 omega
theorem quot_pos {a b : Int} (ha : 1 ≤ a) (hb : 1 ≤ b) (h : a % b = 0) : 1 ≤ a / b := by
 have h1 := Int.mul_ediv_add_emod a b
 refine Int.le_of_not_gt fun h2 => ?_
 have h3 := Int.mul_le_mul_of_nonneg_left (show a / b ≤ 0 by omega) (show 0 ≤ b by omega)
 omega
theorem quot_le {a b : Int} (ha : 0 ≤ a) : a / b ≤ a := Int.ediv_le_self b ha
theorem fast_vd {num den : Int} (hr : Rt num den) {x y : Ed} (hx : Vd x) (h : fastV num den x = (0, y)) : Vd y := by
 have hp := prod_bd 1099511627776 1000 hx.d0 hx.d1 hr.d0 hr.d1
 unfold fastV at h
 by_cases h0 : x.f0 * den % num = 0
 ·rw [if_pos h0] at h
  have hq := quot_pos hp.1 hr.n0 h0
  generalize x.f0 * den / num = d at h hq
  by_cases h1 : (0 ≤ x.f1 ∧ 0 < x.f2) ∧ (1000 < (fstE num den d x).f2 ∨ 1000 < (fstE num den d x).f3)
  ·rw [if_pos h1] at h; cases h
  ·rw [if_neg h1] at h
   by_cases h2 : 1099511627776 < d
   ·rw [if_pos h2] at h; cases h
   ·rw [if_neg h2] at h
    obtain rfl : fstE num den d x = y := (Prod.mk.inj h).2
    have m1 := hx.m1
    by_cases hm : 0 ≤ x.f1 ∧ 0 < x.f2
    ·have hb : ¬ (1000 < (fstE num den d x).f2 ∨ 1000 < (fstE num den d x).f3) := fun hc => h1 ⟨hm, hc⟩
     have hn1 := hx.n1
     have he0 := hx.e0
     have he1 := hx.e1
     have p1 := prod_bd 1000 1000 (show 1 ≤ x.f2 by omega) hn1 hr.n0 hr.n1
     have p2 := prod_bd 1000 1000 he0 he1 hr.d0 hr.d1
     have hl := qq_low (n := x.f2 * num) (e := x.f3 * den) (by omega) p2.1
     unfold fstE lowV at hb ⊢
     rw [if_pos hm] at hb ⊢
     simp only at hb ⊢
     exact ⟨hq, by simp only; omega, by simp only; omega, m1, hl.1, by simp only; omega, hl.2.2.1, by simp only; omega, fun hc => by simp only at hc; omega⟩
    ·unfold fstE
     rw [if_neg hm]
     exact ⟨hq, by simp only; omega, hx.m0, m1, hx.n0, hx.n1, hx.e0, hx.e1, hx.em⟩
 ·rw [if_neg h0] at h; cases h
theorem len_step (pre : List Ed) (x : Ed) (h : pre.length ≤ 1000000) : wrap64 ((pre.length : Int) + 1) = ((pre ++ [x]).length : Int) := by rw [w64 (by omega) (by omega)]; simp
theorem faster_l {ms ts num den : Int} (hc : Ck ms ts) (hr : Rt num den) (l : List Ed) (hV : ∀ x ∈ l, Vd x) (hl : l.length ≤ 1000) (rest : List Ed) :
  ∀ pre out, l = pre ++ rest → (∀ x ∈ out, Vd x) → out.length ≤ pre.length →
   Ev (fun k => edit_Faster.l0 k ms ts num den out l (l.length : Int) (pre.length : Int)) (mapE (fastV num den) (nrmV ms ts) out rest) := by
 induction rest with
 | nil =>
  intro pre out he hw ho
  simp only [List.append_nil] at he
  subst he
  refine Ev.step (fun k => by rw [edit_Faster.l0]) ?_
  exact Ev.congr (fun k => if_neg (by omega)) (Ev.bind (normal_f hc out hw (by omega)) (Ev.now _))
 | cons x t ih =>
  intro pre out he hw ho
  have hlen : l.length = pre.length + (t.length + 1) := by rw [he]; simp
  have hx : rd_T77 l (pre.length : Int) = x := by rw [he]; exact rd_at pre x t
  have hv : Vd x := hV x (by rw [he]; simp)
  have r0 := hr.n0
  have r1 := hr.n1
  have hp := prod_bd 1099511627776 1000 hv.d0 hv.d1 hr.d0 hr.d1
  have nx : ∀ y, fastV num den x = (0, y) → Ev (fun k => edit_Faster.l0 k ms ts num den (out ++ [y]) l (l.length : Int) (wrap64 ((pre.length : Int) + 1))) (mapE (fastV num den) (nrmV ms ts) out (x :: t)) := by
   intro y hy
   rw [mapE_ok hy, len_step pre x (by omega)]
   refine ih (pre ++ [x]) (out ++ [y]) (by rw [he]; simp) ?_ (by simp; omega)
   intro z hz
   rcases List.mem_append.1 hz with hz | hz
   ·exact hw z hz
   ·rw [List.mem_singleton] at hz
    rw [hz]
    exact fast_vd hr hv hy
  have hF := fastV_eq num den x
  have hw1 : wrap64 (x.f0 * den) = x.f0 * den := w64 (by omega) (by omega)
  have htm : Int.tmod (x.f0 * den) num = x.f0 * den % num := Int.tmod_eq_emod_of_nonneg (by omega)
  have htd : Int.tdiv (x.f0 * den) num = x.f0 * den / num := Int.tdiv_eq_ediv_of_nonneg (by omega)
  have hq1 : x.f0 * den / num ≤ x.f0 * den := quot_le (by omega)
  have hq0 : 0 ≤ x.f0 * den / num := Int.ediv_nonneg (by omega) (by omega)
  have hwq : wrap64 (x.f0 * den / num) = x.f0 * den / num := w64 (by omega) (by omega)
  refine Ev.step (fun k => by rw [edit_Faster.l0]) ?_
  refine Ev.congr (fun k => if_pos (by omega)) (Ev.congr (fun k => if_pos (by omega)) (Ev.congr (fun k => if_pos (by omega)) (Ev.congr (fun k => if_neg (by omega)) ?_)))
  rw [hx, hw1, htm, htd, hwq]
  generalize x.f0 * den = A at *
  by_cases h0 : A % num = 0
  ·rw [if_pos h0] at hF
   refine Ev.congr (fun k => if_pos h0) ?_
   generalize A / num = d at *
   have still : ¬ (0 ≤ x.f1 ∧ 0 < x.f2) → Ev (fun k => edit_Faster.j2 k ms ts num den out l (l.length : Int) (pre.length : Int) false d x.f1 x.f2 x.f3) (mapE (fastV num den) (nrmV ms ts) out (x :: t)) := by
    intro hm
    rw [if_neg (fun h => hm h.1)] at hF
    refine Ev.step (fun k => by rw [edit_Faster.j2]) ?_
    refine Ev.congr (fun k => if_neg (by decide)) ?_
    by_cases hb : 1099511627776 < d
    ·rw [if_pos hb] at hF
     rw [mapE_err hF (by decide)]
     exact Ev.congr (fun k => if_pos hb) (Ev.now _)
    ·rw [if_neg hb] at hF
     have hfe : fstE num den d x = ⟨d, x.f1, x.f2, x.f3⟩ := if_neg hm
     rw [hfe] at hF
     exact Ev.congr (fun k => if_neg hb) (Ev.congr (fun k => if_pos (by omega)) (nx _ hF))
   by_cases hm : 0 ≤ x.f1
   ·refine Ev.congr (fun k => if_pos hm) ?_
    by_cases hp2 : 0 < x.f2
    ·rw [decide_eq_true (show x.f2 > 0 from hp2)]
     have hn1 := hv.n1
     have p1 := prod_bd 1000 1000 (show 1 ≤ x.f2 by omega) hn1 hr.n0 hr.n1
     have p2 := prod_bd 1000 1000 hv.e0 hv.e1 hr.d0 hr.d1
     have hlo : edit_lowest.f d x.f1 (wrap64 (x.f2 * num)) (wrap64 (x.f3 * den)) = some (d, x.f1, (fstE num den d x).f2, (fstE num den d x).f3) := by
      rw [w64 (by omega) (by omega), w64 (by omega) (by omega)]
      unfold edit_lowest.f rateOk fstE lowV
      rw [if_pos (⟨hm, hp2⟩ : 0 ≤ x.f1 ∧ 0 < x.f2), decide_eq_true (show 0 ≤ x.f2 * num by omega), decide_eq_true (show x.f2 * num ≤ 1000000 by omega), decide_eq_true p2.1, decide_eq_true (show x.f3 * den ≤ 1000000 by omega)]
      rfl
     have hfe : fstE num den d x = ⟨d, x.f1, (fstE num den d x).f2, (fstE num den d x).f3⟩ := by
      unfold fstE
      rw [if_pos (⟨hm, hp2⟩ : 0 ≤ x.f1 ∧ 0 < x.f2)]
      rfl
     refine Ev.step (fun k => by rw [edit_Faster.j2]) ?_
     refine Ev.congr (fun k => if_pos rfl) ?_
     rw [hlo]
     simp only [Option.bind_some]
     generalize hy2 : (fstE num den d x).f2 = y2 at *
     generalize hy3 : (fstE num den d x).f3 = y3 at *
     have go : Ev (fun k => edit_Faster.j3 k ms ts num den out l (l.length : Int) (pre.length : Int) (decide (1000 < y2 ∨ 1000 < y3)) d x.f1 y2 y3) (mapE (fastV num den) (nrmV ms ts) out (x :: t)) := by
      refine Ev.step (fun k => by rw [edit_Faster.j3]) ?_
      by_cases hb : 1000 < y2 ∨ 1000 < y3
      ·rw [if_pos ⟨⟨hm, hp2⟩, hb⟩] at hF
       rw [mapE_err hF (by decide)]
       exact Ev.congr (fun k => if_pos (decide_eq_true hb)) (Ev.now _)
      ·rw [if_neg (fun h => hb h.2)] at hF
       refine Ev.congr (fun k => if_neg (by rw [decide_eq_false hb]; decide)) ?_
       by_cases hb2 : 1099511627776 < d
       ·rw [if_pos hb2] at hF
        rw [mapE_err hF (by decide)]
        exact Ev.congr (fun k => if_pos hb2) (Ev.now _)
       ·rw [if_neg hb2, hfe] at hF
        exact Ev.congr (fun k => if_neg hb2) (Ev.congr (fun k => if_pos (by omega)) (nx _ hF))
     by_cases hb : y2 > 1000
     ·rw [decide_eq_true (.inl hb)] at go
      exact Ev.congr (fun k => if_pos hb) go
     ·have e : decide (1000 < y2 ∨ 1000 < y3) = decide (y3 > 1000) := by
       congr 1
       apply propext
       omega
      rw [e] at go
      exact Ev.congr (fun k => if_neg hb) go
    ·rw [decide_eq_false (show ¬ x.f2 > 0 from hp2)]
     exact still (fun h => hp2 h.2)
   ·exact Ev.congr (fun k => if_neg hm) (still (fun h => hm h.1))
  ·rw [if_neg h0] at hF
   rw [mapE_err hF (by decide)]
   exact Ev.congr (fun k => if_neg h0) (Ev.now _)
def fasV (ms ts num den : Int) (l : List Ed) : List Ed × Int := if chk l ms ts = 0 then (if 1 ≤ num ∧ num ≤ 1000 ∧ 1 ≤ den ∧ den ≤ 1000 then mapE (fastV num den) (nrmV ms ts) [] l else ([], 1)) else ([], chk l ms ts)
theorem Faster_f (l : List Ed) (ms ts num den : Int) : Ev (fun k => edit_Faster.f k l ms ts num den) (fasV ms ts num den l) := by
 unfold fasV
 by_cases h0 : chk l ms ts = 0
 ·obtain ⟨hc, hl, hV, hs⟩ := chk_ok.1 h0
  rw [if_pos h0]
  have h1 := check_f l ms ts
  rw [h0] at h1
  refine Ev.congr (fun k => rfl) (Ev.bind h1 (Ev.congr (fun k => if_pos rfl) ?_))
  have bad : ¬ (1 ≤ num ∧ num ≤ 1000 ∧ 1 ≤ den ∧ den ≤ 1000) → Ev (fun k => edit_Faster.j0 k l ms ts num den true) (if 1 ≤ num ∧ num ≤ 1000 ∧ 1 ≤ den ∧ den ≤ 1000 then mapE (fastV num den) (nrmV ms ts) [] l else ([], 1)) := by
   intro h
   rw [if_neg h]
   exact Ev.step (fun k => by rw [edit_Faster.j0]) (Ev.congr (fun k => if_pos rfl) (Ev.now _))
  by_cases h1 : num < 1
  ·exact Ev.congr (fun k => if_pos h1) (bad (by omega))
  refine Ev.congr (fun k => if_neg h1) ?_
  by_cases h2 : num > 1000
  ·exact Ev.congr (fun k => if_pos h2) (bad (by omega))
  refine Ev.congr (fun k => if_neg h2) ?_
  by_cases h3 : den < 1
  ·exact Ev.congr (fun k => if_pos h3) (bad (by omega))
  refine Ev.congr (fun k => if_neg h3) ?_
  by_cases h4 : den > 1000
  ·rw [decide_eq_true h4]
   exact bad (by omega)
  ·rw [decide_eq_false h4, if_pos (by omega)]
   refine Ev.step (fun k => by rw [edit_Faster.j0]) (Ev.congr (fun k => if_neg (by decide)) ?_)
   exact faster_l hc ⟨by omega, by omega, by omega, by omega⟩ l hV (by omega) l [] [] rfl (by simp) (by simp)
 ·rw [if_neg h0]
  refine Ev.congr (fun k => rfl) (Ev.bind (check_f l ms ts) ?_)
  refine Ev.congr (fun k => if_neg h0) (Ev.now _)
theorem nrmV_len (ms ts : Int) (l : List Ed) : (nrmV ms ts l).1.length ≤ 20 := by
 unfold nrmV fin
 split
 ·simp
 ·split
  ·simp
  ·simp only [List.length_reverse]; omega
theorem mapE_len (f : Ed → Int × Ed) (fin : List Ed → List Ed × Int) (hf : ∀ l, (fin l).1.length ≤ 20) (l : List Ed) : ∀ out, (mapE f fin out l).1.length ≤ 20 := by
 induction l with
 | nil => intro out; exact hf out
 | cons x t ih =>
  intro out
  simp only [mapE]
  split
  ·exact ih _
  ·simp
theorem fasV_len (ms ts num den : Int) (l : List Ed) : (fasV ms ts num den l).1.length ≤ 20 := by
 unfold fasV
 split
 ·split
  ·exact mapE_len _ _ (nrmV_len ms ts) l []
  ·simp
 ·simp
end Go.Proofs.Ytpbhepdgamoiaaa.Fr
namespace Go.Proofs.Ytpbhepdgamoiaaa.Cl
open Go.RowKit Go Go.Proofs.YtpbhepdgamoiaaaW.PrintWords Go.Proofs.YtpbhepdgamoiaaaW.PrintLast Go.Proofs.YtpbhepdgamoiaaaW.PrintMore Go.Proofs.Ytpbhepdgamoiaaa.Mn Go.Proofs.Ytpbhepdgamoiaaa.Rf Go.Proofs.Ytpbhepdgamoiaaa.Er Go.Proofs.Ytpbhepdgamoiaaa.Ek Go.Proofs.Ytpbhepdgamoiaaa.Ew Go.Proofs.Ytpbhepdgamoiaaa.E Go.Proofs.Ytpbhepdgamoiaaa.Pe Go.Proofs.Ytpbhepdgamoiaaa.Pf Go.Proofs.Ytpbhepdgamoiaaa.Pg Go.Proofs.Ytpbhepdgamoiaaa.Qr Go.Proofs.Ytpbhepdgamoiaaa.Qn Go.Proofs.Ytpbhepdgamoiaaa.Qo Go.Proofs.Ytpbhepdgamoiaaa.Qp Go.Proofs.Ytpbhepdgamoiaaa.Qe Go.Proofs.Ytpbhepdgamoiaaa.Qw Go.Proofs.Ytpbhepdgamoiaaa.Oe Go.Proofs.Ytpbhepdgamoiaaa.Fr
set_option linter.unusedVariables false
set_option linter.unusedSimpArgs false
def scB (a : Int) : Bool := decide (1 ≤ a) && decide (a ≤ 1000000)
theorem scale_f (a : Int) : edit_isScale.f a = some (scB a) := by
 unfold edit_isScale.f scB
 by_cases h : a ≥ 1
 ·rw [if_pos h, decide_eq_true (show 1 ≤ a from h), Bool.true_and]
 ·rw [if_neg h, decide_eq_false (show ¬ 1 ≤ a from h), Bool.false_and]
end Go.Proofs.Ytpbhepdgamoiaaa.Cl
namespace Go.Proofs.Ytpbhepdgamoiaaa.So
open Go.RowKit Go Go.Proofs.Ytpbhepdgamoiaaa.Rf Go.Proofs.Ytpbhepdgamoiaaa.Er Go.Proofs.Ytpbhepdgamoiaaa.Ek Go.Proofs.Ytpbhepdgamoiaaa.Et Go.Proofs.Ytpbhepdgamoiaaa.Ew Go.Proofs.Ytpbhepdgamoiaaa.E Go.Proofs.Ytpbhepdgamoiaaa.Pe Go.Proofs.Ytpbhepdgamoiaaa.Pf Go.Proofs.Ytpbhepdgamoiaaa.Qr Go.Proofs.Ytpbhepdgamoiaaa.Qn Go.Proofs.Ytpbhepdgamoiaaa.Qw Go.Proofs.Ytpbhepdgamoiaaa.Fr Go.Proofs.Ytpbhepdgamoiaaa.Cl Go.Proofs.Ytpbhepdgamoiaaa.Nm
set_option linter.unusedVariables false
set_option linter.unusedSimpArgs false
theorem mapE_inv {f : Ed → Int × Ed} {fin : List Ed → List Ed × Int} : ∀ (l out : List Ed), (mapE f fin out l).2 = 0 → (∀ x ∈ l, (f x).1 = 0) ∧ mapE f fin out l = fin (out ++ l.map (fun x => (f x).2))
 | [], out, h => ⟨by simp, by simp [mapE]⟩
 | x :: t, out, h => by
  simp only [mapE] at h ⊢
  by_cases h0 : (f x).1 = 0
  ·rw [if_pos h0] at h ⊢
   obtain ⟨h1, h2⟩ := mapE_inv t _ h
   refine ⟨fun y hy => ?_, by rw [h2]; simp⟩
   rcases List.mem_cons.1 hy with rfl | hy
   ·exact h0
   ·exact h1 y hy
  ·rw [if_neg h0] at h
   exact absurd h h0
theorem fst_is {ms ts num den : Int} (hc : Ck ms ts) (hr : Rt num den) {x : Ed} (hx : Vd x) (h : (fastV num den x).1 = 0) : qq (fastV num den x).2.f0 ms * qq num den = qq x.f0 ms ∧ ∀ p, shV ts (fastV num den x).2 p = shV ts x (p * qq num den) := by
 have c0 := hc.m0
 have r0 := hr.n0
 have r1 := hr.d0
 unfold fastV at h ⊢
 by_cases h0 : x.f0 * den % num = 0
 ·rw [if_pos h0] at h ⊢
  have hd : x.f0 * den / num * num = x.f0 * den := by
   have := Int.mul_ediv_add_emod (x.f0 * den) num
   rw [h0, Int.add_zero] at this
   rw [Int.mul_comm]
   exact this
  generalize x.f0 * den / num = d at h hd ⊢
  by_cases h1 : (0 ≤ x.f1 ∧ 0 < x.f2) ∧ (1000 < (fstE num den d x).f2 ∨ 1000 < (fstE num den d x).f3)
  ·rw [if_pos h1] at h
   cases h
  ·rw [if_neg h1] at h ⊢
   by_cases h2 : 1099511627776 < d
   ·rw [if_pos h2] at h
    cases h
   ·rw [if_neg h2]
    have hq : qq d ms * qq num den = qq x.f0 ms := by
     unfold qq
     rw [Rat.divInt_mul_divInt, hd, Rat.divInt_mul_right (by omega)]
    simp only
    have hf : (fstE num den d x).f0 = d := by unfold fstE lowV; split <;> rfl
    rw [hf]
    refine ⟨hq, fun p => ?_⟩
    unfold fstE
    by_cases hm : 0 ≤ x.f1 ∧ 0 < x.f2
    ·rw [if_pos hm, sh_low]
     unfold shV
     simp only
     have e : qq (x.f2 * num) (x.f3 * den) = qq x.f2 x.f3 * qq num den := by
      unfold qq
      rw [Rat.divInt_mul_divInt]
     rw [e, show p * (qq x.f2 x.f3 * qq num den) = p * qq num den * qq x.f2 x.f3 by grind]
    ·rw [if_neg hm]
     unfold shV
     simp only
     by_cases hn : x.f1 < 0
     ·rw [if_pos hn, if_pos hn]
     ·have hz : x.f2 = 0 := by have := hx.n0; omega
      rw [hz, qq_zero, show p * 0 = (0 : Rat) by grind, show p * qq num den * 0 = (0 : Rat) by grind]
 ·rw [if_neg h0] at h
  cases h
theorem mul_lt {a b r : Rat} (hr : 0 < r) : a * r < b * r ↔ a < b := by
 constructor
 ·intro h
  refine Rat.not_le.1 fun h2 => ?_
  have := Rat.mul_le_mul_of_nonneg_right h2 (Rat.le_of_lt hr)
  exact absurd h (Rat.not_lt.2 this)
 ·intro h
  exact Rat.mul_lt_mul_of_pos_right h hr
theorem med_fast {ms ts num den : Int} (hc : Ck ms ts) (hr : Rt num den) {q : Rat} : ∀ (l : List Ed) (b B : Int), (∀ x ∈ l, Vd x) → (∀ x ∈ l, (fastV num den x).1 = 0) → qq B ms * qq num den = qq b ms → medL ms ts q B (l.map (fun x => (fastV num den x).2)) = medL ms ts (q * qq num den) b l
 | [], b, B, _, _, _ => rfl
 | x :: t, b, B, hV, h, hb => by
  have c0 := hc.m0
  obtain ⟨h1, h2⟩ := fst_is (ts := ts) hc hr (hV x (by simp)) (h x (by simp))
  have hb2 : qq (B + (fastV num den x).2.f0) ms * qq num den = qq (b + x.f0) ms := by
   rw [qq_add1 (by omega), qq_add1 (by omega), ← hb, ← h1]
   grind
  have hp : 0 < qq num den := by
   rw [show (0 : Rat) = qq 0 1 from (qq_zero 1).symm, qq_lt (by decide) (by have := hr.d0; omega)]
   have := hr.n0
   omega
  rw [List.map_cons, med_cons, med_cons, med_fast hc hr t (b + x.f0) (B + (fastV num den x).2.f0) (fun y hy => hV y (by simp [hy])) (fun y hy => h y (by simp [hy])) hb2, ← hb, ← hb2, h2]
  simp only [mul_lt hp]
  rw [show (q - qq B ms) * qq num den = q * qq num den - qq B ms * qq num den by grind]
theorem fas_med {ms ts num den : Int} {l : List Ed} (h : (fasV ms ts num den l).2 = 0) : chk l ms ts = 0 ∧ chk (fasV ms ts num den l).1 ms ts = 0 ∧ Rt num den ∧ ∀ q, medL ms ts q 0 (fasV ms ts num den l).1 = medL ms ts (q * qq num den) 0 l := by
 unfold fasV at h ⊢
 by_cases h0 : chk l ms ts = 0
 ·rw [if_pos h0] at h ⊢
  by_cases h1 : 1 ≤ num ∧ num ≤ 1000 ∧ 1 ≤ den ∧ den ≤ 1000
  ·rw [if_pos h1] at h ⊢
   obtain ⟨hc, hl, hV, hs⟩ := chk_ok.1 h0
   have hr : Rt num den := ⟨h1.1, h1.2.1, h1.2.2.1, h1.2.2.2⟩
   obtain ⟨h2, h3⟩ := mapE_inv l [] h
   rw [h3] at h ⊢
   rw [List.nil_append] at h ⊢
   have hV2 : ∀ y ∈ l.map (fun x => (fastV num den x).2), Vd y := by
    intro y hy
    obtain ⟨x, hx, rfl⟩ := List.mem_map.1 hy
    exact fast_vd hr (hV x hx) (Prod.ext (h2 x hx) rfl)
   obtain ⟨h4, h5, h6⟩ := nrmV_ok hc hV2 h
   rw [h4]
   refine ⟨h0, h5, hr, fun q => ?_⟩
   rw [nrm_med hc hV2]
   exact med_fast hc hr l 0 0 hV h2 (by rw [qq_zero]; grind)
  ·rw [if_neg h1] at h
   cases h
 ·rw [if_neg h0] at h
  exact absurd h h0
end Go.Proofs.Ytpbhepdgamoiaaa.So
namespace Go.Proofs.Ytpbhepdgamoiaaa.Sw
open Go.RowKit Go Go.Proofs.Ytpbhepdgamoiaaa.Rf Go.Proofs.Ytpbhepdgamoiaaa.Er Go.Proofs.Ytpbhepdgamoiaaa.Ek Go.Proofs.Ytpbhepdgamoiaaa.Et Go.Proofs.Ytpbhepdgamoiaaa.E Go.Proofs.Ytpbhepdgamoiaaa.Pe Go.Proofs.Ytpbhepdgamoiaaa.Pf Go.Proofs.Ytpbhepdgamoiaaa.Nm
set_option linter.unusedVariables false
set_option linter.unusedSimpArgs false
end Go.Proofs.Ytpbhepdgamoiaaa.Sw
namespace Go.Proofs.Ytpbhepdgamoiaaa.Ct
open Go.RowKit Go Go.Proofs.YtpbhepdgamoiaaaW.PrintWords Go.Proofs.YtpbhepdgamoiaaaW.PrintLast Go.Proofs.YtpbhepdgamoiaaaW.PrintMore Go.Proofs.Ytpbhepdgamoiaaa.Mn Go.Proofs.Ytpbhepdgamoiaaa.Rf Go.Proofs.Ytpbhepdgamoiaaa.Er Go.Proofs.Ytpbhepdgamoiaaa.Ek Go.Proofs.Ytpbhepdgamoiaaa.Et Go.Proofs.Ytpbhepdgamoiaaa.Ew Go.Proofs.Ytpbhepdgamoiaaa.E Go.Proofs.Ytpbhepdgamoiaaa.Pe Go.Proofs.Ytpbhepdgamoiaaa.Pf Go.Proofs.Ytpbhepdgamoiaaa.Pg Go.Proofs.Ytpbhepdgamoiaaa.Qr Go.Proofs.Ytpbhepdgamoiaaa.Qn Go.Proofs.Ytpbhepdgamoiaaa.Qw Go.Proofs.Ytpbhepdgamoiaaa.Fr Go.Proofs.Ytpbhepdgamoiaaa.Cl Go.Proofs.Ytpbhepdgamoiaaa.Nm Go.Proofs.Ytpbhepdgamoiaaa.So Go.Proofs.Ytpbhepdgamoiaaa.Sw
set_option linter.unusedVariables false
set_option linter.unusedSimpArgs false
def cutL (ms ts fr te : Int) : List Ed → Int → List Ed → List Ed × Int
 | out, _, [] => nrmV ms ts out
 | out, b, x :: t =>
  if mn (b + x.f0) te ≤ mx b fr then cutL ms ts fr te out (b + x.f0) t
  else if 0 ≤ x.f1 then
   (if (whV (afterQ ms ts x.f1 x.f2 x.f3 (mx b fr - b))).2 = 0 then cutL ms ts fr te (out ++ [⟨mn (b + x.f0) te - mx b fr, (whV (afterQ ms ts x.f1 x.f2 x.f3 (mx b fr - b))).1, x.f2, x.f3⟩]) (b + x.f0) t
       else ([], (whV (afterQ ms ts x.f1 x.f2 x.f3 (mx b fr - b))).2))
  else cutL ms ts fr te (out ++ [⟨mn (b + x.f0) te - mx b fr, x.f1, x.f2, x.f3⟩]) (b + x.f0) t
theorem cutL_cons (ms ts fr te : Int) (out : List Ed) (b : Int) (x : Ed) (t : List Ed) : cutL ms ts fr te out b (x :: t) =
  if mn (b + x.f0) te ≤ mx b fr then cutL ms ts fr te out (b + x.f0) t
  else if 0 ≤ x.f1 then
   (if (whV (afterQ ms ts x.f1 x.f2 x.f3 (mx b fr - b))).2 = 0 then cutL ms ts fr te (out ++ [⟨mn (b + x.f0) te - mx b fr, (whV (afterQ ms ts x.f1 x.f2 x.f3 (mx b fr - b))).1, x.f2, x.f3⟩]) (b + x.f0) t
       else ([], (whV (afterQ ms ts x.f1 x.f2 x.f3 (mx b fr - b))).2))
  else cutL ms ts fr te (out ++ [⟨mn (b + x.f0) te - mx b fr, x.f1, x.f2, x.f3⟩]) (b + x.f0) t := rfl
theorem wh_rng {q : Rat} (hq : 0 ≤ q) (h : (whV q).2 = 0) : (0 ≤ (whV q).1 ∧ (whV q).1 ≤ 1099511627776) ∧ qq (whV q).1 1 = q := by
 have hn := Rat.num_nonneg.2 hq
 unfold whV at h ⊢
 by_cases h1 : q.den = 1
 ·rw [if_pos h1] at h ⊢
  by_cases h2 : 1099511627776 < q.num
  ·rw [if_pos h2] at h
   cases h
  ·rw [if_neg h2]
   refine ⟨⟨hn, by simp only; omega⟩, ?_⟩
   have := Rat.num_divInt_den q
   rw [h1] at this
   exact this
 ·rw [if_neg h1] at h
  cases h
theorem qq_nn {a b : Int} (ha : 0 ≤ a) (hb : 0 < b) : 0 ≤ qq a b := Rat.not_lt.1 (qq_nonneg ha hb)
theorem after_nn {ms ts m n e k : Int} (hc : Ck ms ts) (hm : 0 ≤ m) (hn : 0 ≤ n) (he : 1 ≤ e) (hk : 0 ≤ k) : 0 ≤ afterQ ms ts m n e k := by
 have c0 := hc.m0
 have c2 := hc.t0
 exact Rat.add_nonneg (Rat.mul_nonneg (Rat.mul_nonneg (qq_nn hk (by omega)) (qq_nn hn (by omega))) (qq_nn (by omega) (by decide))) (qq_nn hm (by decide))
theorem after_sh {ms ts m n e k tick : Int} (hc : Ck ms ts) (h : qq tick 1 = afterQ ms ts m n e k) : qq tick ts = qq m ts + qq k ms * qq n e := by
 have c2 := hc.t0
 unfold afterQ at h
 rw [qq_split (m := m) (t := ts) (by omega), qq_split (m := tick) (t := ts) (by omega)] at h
 have h9 := qq_ne (t := ts) (by omega)
 generalize qq ts 1 = T at h h9
 have : (qq k ms * qq n e + qq m ts - qq tick ts) * T = 0 := by grind
 rcases Rat.mul_eq_zero.1 this with h2 | h2
 ·grind
 ·exact absurd h2 h9
theorem piece_vd {x : Ed} (hx : Vd x) {d m : Int} (h1 : 1 ≤ d) (h2 : d ≤ 1099511627776) (h3 : 0 ≤ m) (h4 : m ≤ 1099511627776) : Vd ⟨d, m, x.f2, x.f3⟩ :=
 ⟨h1, h2, by simp only; omega, h4, hx.n0, hx.n1, hx.e0, hx.e1, fun h => by simp only at h; omega⟩
theorem piece_em {x : Ed} (hx : Vd x) {d : Int} (h1 : 1 ≤ d) (h2 : d ≤ 1099511627776) : Vd ⟨d, x.f1, x.f2, x.f3⟩ :=
 ⟨h1, h2, hx.m0, hx.m1, hx.n0, hx.n1, hx.e0, hx.e1, hx.em⟩
theorem mem_snoc {out : List Ed} {y : Ed} (h : ∀ x ∈ out, Vd x) (hy : Vd y) : ∀ x ∈ out ++ [y], Vd x := by
 intro z hz
 rcases List.mem_append.1 hz with hz | hz
 ·exact h z hz
 ·rw [List.mem_singleton] at hz
  rw [hz]
  exact hy
theorem after_v {ms ts d m n e k : Int} (hc : Ck ms ts) (hm : 0 ≤ m) (hm1 : m ≤ 1099511627776) (hn : 0 ≤ n) (hn1 : n ≤ 1000) (he : 1 ≤ e) (he1 : e ≤ 1000) (hk : 0 ≤ k) (hk1 : k ≤ 1099511627776) : edit_clocks_after.f ms ts d m n e k = some (whV (afterQ ms ts m n e k)) := by
 have c0 := hc.m0
 have c1 := hc.m1
 have c2 := hc.t0
 have c3 := hc.t1
 unfold edit_clocks_after.f afOk
 rw [if_pos (by simp only [Bool.and_eq_true, decide_eq_true_eq]; omega)]
theorem mx_ge (a b : Int) : a ≤ mx a b ∧ b ≤ mx a b := by unfold mx; split <;> omega
theorem mn_le (a b : Int) : mn a b ≤ a ∧ mn a b ≤ b := by unfold mn; split <;> omega
theorem cut_l {ms ts fr te : Int} (hc : Ck ms ts) (hf : 0 ≤ fr ∧ fr ≤ 1099511627776) (ht : 0 ≤ te ∧ te ≤ 1099511627776) (l : List Ed) (hV : ∀ x ∈ l, Vd x) (hl : l.length ≤ 1000) (hs : sumD l ≤ 1099511627776) (rest : List Ed) :
  ∀ pre out, l = pre ++ rest → (∀ x ∈ out, Vd x) → out.length ≤ pre.length →
   Ev (fun k => edit_clocks_cut.l0 k fr te out (sumD pre) l (l.length : Int) (pre.length : Int) ms ts) (cutL ms ts fr te out (sumD pre) rest) := by
 induction rest with
 | nil =>
  intro pre out he hw ho
  simp only [List.append_nil] at he
  subst he
  refine Ev.step (fun k => by rw [edit_clocks_cut.l0]) ?_
  exact Ev.congr (fun k => if_neg (by omega)) (Ev.bind (normal_f hc out hw (by omega)) (Ev.now _))
 | cons x t ih =>
  intro pre out he hw ho
  have hlen : l.length = pre.length + (t.length + 1) := by rw [he]; simp
  have hx : rd_T77 l (pre.length : Int) = x := by rw [he]; exact rd_at pre x t
  have hv : Vd x := hV x (by rw [he]; simp)
  have hst : 0 ≤ sumD t := sumD_nonneg (fun y hy => hV y (by rw [he]; simp [hy]))
  have hp0 : 0 ≤ sumD pre := sumD_nonneg (fun y hy => hV y (by rw [he]; simp [hy]))
  have hsl : sumD l = sumD pre + x.f0 + sumD t := by rw [he, sumD_app]; simp only [sumD]; omega
  have hsp : sumD (pre ++ [x]) = sumD pre + x.f0 := by rw [sumD_app]; simp [sumD]
  have hd0 := hv.d0
  have hwb : wrap64 (sumD pre + x.f0) = sumD (pre ++ [x]) := by rw [hsp]; exact w64 (by omega) (by omega)
  have nx : ∀ out', (∀ x ∈ out', Vd x) → out'.length ≤ (pre ++ [x]).length → Ev (fun k => edit_clocks_cut.l0 k fr te out' (sumD (pre ++ [x])) l (l.length : Int) (wrap64 ((pre.length : Int) + 1)) ms ts) (cutL ms ts fr te out' (sumD pre + x.f0) t) := by
   intro out' h1 h2
   rw [len_step pre x (by omega), ← hsp]
   exact ih (pre ++ [x]) out' (by rw [he]; simp) h1 h2
  have a1 := mx_ge (sumD pre) fr
  have e1 := mn_le (sumD pre + x.f0) te
  have a2 : mx (sumD pre) fr ≤ 1099511627776 := by unfold mx; split <;> omega
  have e0 : 0 ≤ mn (sumD pre + x.f0) te := by unfold mn; split <;> omega
  have hA0 : 0 ≤ mx (sumD pre) fr - sumD pre := by omega
  have hA1 : mx (sumD pre) fr - sumD pre ≤ 1099511627776 := by omega
  have hwa : wrap64 (mx (sumD pre) fr - sumD pre) = mx (sumD pre) fr - sumD pre := w64 (by omega) (by omega)
  have hwd : wrap64 (mn (sumD pre + x.f0) te - mx (sumD pre) fr) = mn (sumD pre + x.f0) te - mx (sumD pre) fr := w64 (by omega) (by omega)
  have hD1 : mn (sumD pre + x.f0) te - mx (sumD pre) fr ≤ 1099511627776 := by omega
  rw [cutL_cons]
  refine Ev.step (fun k => by rw [edit_clocks_cut.l0]) ?_
  refine Ev.congr (fun k => if_pos (by omega)) (Ev.congr (fun k => if_pos (by omega)) (Ev.congr (fun k => if_pos (by omega)) ?_))
  rw [hx, hwb, hsp, hwd, hwa]
  rw [hsp] at nx
  by_cases hc1 : mn (sumD pre + x.f0) te ≤ mx (sumD pre) fr
  ·rw [if_pos hc1]
   exact Ev.congr (fun k => if_pos hc1) (nx out hw (by simp; omega))
  ·rw [if_neg hc1]
   refine Ev.congr (fun k => if_neg hc1) ?_
   have hD0 : 1 ≤ mn (sumD pre + x.f0) te - mx (sumD pre) fr := by omega
   generalize mn (sumD pre + x.f0) te - mx (sumD pre) fr = D at *
   generalize mx (sumD pre) fr - sumD pre = K at *
   have hv2 := hv.n0
   have hv3 := hv.e0
   by_cases hm : 0 ≤ x.f1
   ·rw [if_pos hm]
    refine Ev.congr (fun k => if_pos hm) ?_
    rw [after_v hc hm hv.m1 hv.n0 hv.n1 hv.e0 hv.e1 hA0 hA1]
    simp only [Option.bind_some]
    by_cases hq : (whV (afterQ ms ts x.f1 x.f2 x.f3 K)).2 = 0
    ·have r := wh_rng (after_nn hc hm hv.n0 hv.e0 hA0) hq
     rw [if_pos hq]
     exact Ev.congr (fun k => if_pos hq) (Ev.congr (fun k => if_pos (by omega)) (nx _ (mem_snoc hw (piece_vd hv hD0 hD1 r.1.1 r.1.2)) (by simp; omega)))
    ·rw [if_neg hq]
     exact Ev.congr (fun k => if_neg hq) (Ev.now _)
   ·rw [if_neg hm]
    exact Ev.congr (fun k => if_neg hm) (Ev.congr (fun k => if_pos (by omega)) (nx _ (mem_snoc hw (piece_em hv hD0 hD1)) (by simp; omega)))
theorem cut_f {ms ts fr te : Int} (hc : Ck ms ts) (hf : 0 ≤ fr ∧ fr ≤ 1099511627776) (ht : 0 ≤ te ∧ te ≤ 1099511627776) (l : List Ed) (hV : ∀ x ∈ l, Vd x) (hl : l.length ≤ 1000) (hs : sumD l ≤ 1099511627776) : Ev (fun k => edit_clocks_cut.f k ms ts l fr te) (cutL ms ts fr te [] 0 l) :=
 cut_l hc hf ht l hV hl hs l [] [] rfl (by simp) (by simp)
def cutOk (fr te : Int) : Prop := (0 ≤ fr ∧ fr ≤ 1099511627776) ∧ (0 ≤ te ∧ te ≤ 1099511627776) ∧ fr ≤ te
instance (fr te : Int) : Decidable (cutOk fr te) := inferInstanceAs (Decidable (_ ∧ _))
def cutV (ms ts fr te : Int) (l : List Ed) : List Ed × Int := if chk l ms ts = 0 then (if cutOk fr te then cutL ms ts fr te [] 0 l else ([], 1)) else ([], chk l ms ts)
def tkB (a : Int) : Bool := decide (0 ≤ a) && decide (a ≤ 1099511627776)
theorem tick_f (a : Int) : edit_isTick.f a = some (tkB a) := by
 unfold edit_isTick.f tkB
 by_cases h : a ≥ 0
 ·rw [if_pos h, decide_eq_true (show 0 ≤ a from h), Bool.true_and]
 ·rw [if_neg h, decide_eq_false (show ¬ 0 ≤ a from h), Bool.false_and]
theorem tkB_iff {a : Int} : tkB a = true ↔ 0 ≤ a ∧ a ≤ 1099511627776 := by
 unfold tkB
 simp only [Bool.and_eq_true, decide_eq_true_eq]
theorem Cut_f (l : List Ed) (ms ts fr te : Int) : Ev (fun k => edit_Cut.f k l ms ts fr te) (cutV ms ts fr te l) := by
 unfold cutV
 by_cases h0 : chk l ms ts = 0
 ·obtain ⟨hc, hl, hV, hs⟩ := chk_ok.1 h0
  rw [if_pos h0]
  have h1 := check_f l ms ts
  rw [h0] at h1
  refine Ev.congr (fun k => rfl) (Ev.bind h1 (Ev.congr (fun k => if_pos rfl) ?_))
  rw [tick_f, tick_f]
  simp only [Option.bind_some]
  by_cases h2 : tkB fr = true
  ·refine Ev.congr (fun k => if_pos h2) ?_
   by_cases h3 : tkB te = true
   ·refine Ev.congr (fun k => if_pos h3) ?_
    by_cases h4 : te < fr
    ·rw [if_neg (fun h => by have := h.2.2; omega)]
     exact Ev.congr (fun k => if_pos h4) (Ev.now _)
    ·rw [if_pos ⟨tkB_iff.1 h2, tkB_iff.1 h3, by omega⟩]
     exact Ev.congr (fun k => if_neg h4) (Ev.bind (cut_f hc (tkB_iff.1 h2) (tkB_iff.1 h3) l hV (by omega) hs) (Ev.now _))
   ·rw [if_neg (fun h => h3 (tkB_iff.2 h.2.1))]
    exact Ev.congr (fun k => if_neg h3) (Ev.now _)
  ·rw [if_neg (fun h => h2 (tkB_iff.2 h.1))]
   exact Ev.congr (fun k => if_neg h2) (Ev.now _)
 ·rw [if_neg h0]
  refine Ev.congr (fun k => rfl) (Ev.bind (check_f l ms ts) ?_)
  exact Ev.congr (fun k => if_neg h0) (Ev.now _)
def pcs (ms ts fr te : Int) : Int → List Ed → List Ed
 | _, [] => []
 | b, x :: t =>
  if mn (b + x.f0) te ≤ mx b fr then pcs ms ts fr te (b + x.f0) t
  else ⟨mn (b + x.f0) te - mx b fr, if 0 ≤ x.f1 then (whV (afterQ ms ts x.f1 x.f2 x.f3 (mx b fr - b))).1 else x.f1, x.f2, x.f3⟩ :: pcs ms ts fr te (b + x.f0) t
def pok (ms ts fr te : Int) : Int → List Ed → Prop
 | _, [] => True
 | b, x :: t => (¬ mn (b + x.f0) te ≤ mx b fr → 0 ≤ x.f1 → (whV (afterQ ms ts x.f1 x.f2 x.f3 (mx b fr - b))).2 = 0) ∧ pok ms ts fr te (b + x.f0) t
theorem pcs_cons (ms ts fr te b : Int) (x : Ed) (t : List Ed) : pcs ms ts fr te b (x :: t) = if mn (b + x.f0) te ≤ mx b fr then pcs ms ts fr te (b + x.f0) t
  else ⟨mn (b + x.f0) te - mx b fr, if 0 ≤ x.f1 then (whV (afterQ ms ts x.f1 x.f2 x.f3 (mx b fr - b))).1 else x.f1, x.f2, x.f3⟩ :: pcs ms ts fr te (b + x.f0) t := rfl
theorem cutL_ok {ms ts fr te : Int} : ∀ (l out : List Ed) (b : Int), (cutL ms ts fr te out b l).2 = 0 → pok ms ts fr te b l ∧ cutL ms ts fr te out b l = nrmV ms ts (out ++ pcs ms ts fr te b l)
 | [], out, b, h => ⟨trivial, by simp [cutL, pcs]⟩
 | x :: t, out, b, h => by
  rw [cutL_cons] at h ⊢
  rw [pcs_cons]
  simp only [pok]
  by_cases h1 : mn (b + x.f0) te ≤ mx b fr
  ·rw [if_pos h1] at h ⊢
   obtain ⟨h2, h3⟩ := cutL_ok t out (b + x.f0) h
   exact ⟨⟨fun hc => absurd h1 hc, h2⟩, by rw [h3, if_pos h1]⟩
  ·rw [if_neg h1] at h ⊢
   rw [if_neg h1]
   by_cases hm : 0 ≤ x.f1
   ·rw [if_pos hm] at h ⊢
    rw [if_pos hm]
    by_cases hq : (whV (afterQ ms ts x.f1 x.f2 x.f3 (mx b fr - b))).2 = 0
    ·rw [if_pos hq] at h ⊢
     obtain ⟨h2, h3⟩ := cutL_ok t _ (b + x.f0) h
     exact ⟨⟨fun _ _ => hq, h2⟩, by rw [h3, List.append_assoc]; rfl⟩
    ·rw [if_neg hq] at h
     exact absurd h hq
   ·rw [if_neg hm] at h ⊢
    rw [if_neg hm]
    obtain ⟨h2, h3⟩ := cutL_ok t _ (b + x.f0) h
    exact ⟨⟨fun _ hc => absurd hc hm, h2⟩, by rw [h3, List.append_assoc]; rfl⟩
theorem pcs_vd {ms ts fr te : Int} (hc : Ck ms ts) (hf : 0 ≤ fr) (ht : te ≤ 1099511627776) : ∀ (l : List Ed) (b : Int), 0 ≤ b → pok ms ts fr te b l → (∀ x ∈ l, Vd x) → ∀ y ∈ pcs ms ts fr te b l, Vd y
 | [], b, _, _, _ => by simp [pcs]
 | x :: t, b, hb, hp, hV => by
  have hv := hV x (by simp)
  have d0 := hv.d0
  have ih := pcs_vd hc hf ht t (b + x.f0) (by omega) hp.2 (fun y hy => hV y (by simp [hy]))
  have a1 := mx_ge b fr
  have e1 := mn_le (b + x.f0) te
  rw [pcs_cons]
  by_cases h1 : mn (b + x.f0) te ≤ mx b fr
  ·rw [if_pos h1]
   exact ih
  ·rw [if_neg h1]
   intro y hy
   rcases List.mem_cons.1 hy with rfl | hy
   ·by_cases hm : 0 ≤ x.f1
    ·rw [if_pos hm]
     have r := wh_rng (after_nn hc hm hv.n0 hv.e0 (by omega)) (hp.1 h1 hm)
     exact piece_vd hv (by omega) (by omega) r.1.1 r.1.2
    ·rw [if_neg hm]
     exact piece_em hv (by omega) (by omega)
   ·exact ih y hy
theorem pcs_end {ms ts fr te : Int} : ∀ (l : List Ed) (b : Int), (∀ x ∈ l, Vd x) → te ≤ mx b fr → pcs ms ts fr te b l = []
 | [], b, _, _ => rfl
 | x :: t, b, hV, h => by
  have d0 := (hV x (by simp)).d0
  have e1 := mn_le (b + x.f0) te
  rw [pcs_cons, if_pos (by omega)]
  exact pcs_end t (b + x.f0) (fun y hy => hV y (by simp [hy])) (by unfold mx at h ⊢; split at h <;> split <;> omega)
theorem pcs_med {ms ts fr te : Int} (hc : Ck ms ts) (hf : 0 ≤ fr) (hft : fr ≤ te) {q : Rat} (hq : 0 ≤ q) : ∀ (l : List Ed) (b : Int), 0 ≤ b → pok ms ts fr te b l → (∀ x ∈ l, Vd x) →
  medL ms ts q (mx b fr - fr) (pcs ms ts fr te b l) = if q + qq fr ms < qq te ms then medL ms ts (q + qq fr ms) b l else noV
 | [], b, _, _, _ => by
  simp only [pcs, medL]
  split <;> rfl
 | x :: t, b, hb, hp, hV => by
  have c0 := hc.m0
  have hm : 0 < ms := by omega
  have hv := hV x (by simp)
  have d0 := hv.d0
  have hV2 : ∀ y ∈ t, Vd y := fun y hy => hV y (by simp [hy])
  have h0t : ∀ y ∈ t, 0 ≤ y.f0 := fun y hy => by have := (hV2 y hy).d0; omega
  have ih := pcs_med hc hf hft hq t (b + x.f0) (by omega) hp.2 hV2
  have hpf : qq fr ms ≤ q + qq fr ms := by grind
  generalize hp' : q + qq fr ms = p at *
  rw [pcs_cons]
  have a1 := mx_ge b fr
  have e1 := mn_le (b + x.f0) te
  by_cases h1 : mn (b + x.f0) te ≤ mx b fr
  ·rw [if_pos h1]
   by_cases h2 : b + x.f0 ≤ fr
   ·have e2 : mx b fr = mx (b + x.f0) fr := by unfold mx; split <;> split <;> omega
    rw [e2, ih]
    have l1 : ¬ p < qq (b + x.f0) ms := Rat.not_lt.2 (Rat.le_trans ((qq_le1 hm).2 h2) hpf)
    have l2 : ¬ p < qq b ms := Rat.not_lt.2 (Rat.le_trans ((qq_le1 hm).2 (by omega)) hpf)
    rw [med_cons, if_neg l2, if_neg l1]
   ·have h3 : te ≤ mx b fr := by unfold mx; unfold mn mx at h1; split at h1 <;> split at h1 <;> split <;> omega
    rw [pcs_end t (b + x.f0) hV2 (by unfold mx at h3 ⊢; split at h3 <;> split <;> omega)]
    show noV = _
    by_cases h4 : p < qq te ms
    ·rw [if_pos h4]
     have h5 : te ≤ b := by
      refine Int.not_lt.1 fun h6 => ?_
      have h7 : te = fr := by unfold mx at h3; split at h3 <;> omega
      rw [h7] at h4
      exact absurd h4 (Rat.not_lt.2 hpf)
     rw [med_low hm (x :: t) b (fun y hy => by have := (hV y hy).d0; omega) (lt_le h4 ((qq_le1 hm).2 h5))]
    ·rw [if_neg h4]
  ·rw [if_neg h1]
   have hy : ∀ r, shV ts (⟨mn (b + x.f0) te - mx b fr, if 0 ≤ x.f1 then (whV (afterQ ms ts x.f1 x.f2 x.f3 (mx b fr - b))).1 else x.f1, x.f2, x.f3⟩ : Ed) r = shV ts x (r + qq (mx b fr - b) ms) := by
    intro r
    unfold shV
    simp only
    by_cases hm1 : 0 ≤ x.f1
    ·have w := wh_rng (after_nn hc hm1 hv.n0 hv.e0 (show 0 ≤ mx b fr - b by omega)) (hp.1 h1 hm1)
     rw [if_pos hm1, if_neg (by omega), if_neg (by omega), after_sh hc w.2]
     rw [show qq x.f1 ts + qq (mx b fr - b) ms * qq x.f2 x.f3 + r * qq x.f2 x.f3 = qq x.f1 ts + (r + qq (mx b fr - b) ms) * qq x.f2 x.f3 by grind]
    ·rw [if_neg hm1, if_pos (by omega), if_pos (by omega)]
   rw [med_cons, hy]
   simp only
   have eB : mx b fr - fr + (mn (b + x.f0) te - mx b fr) = mn (b + x.f0) te - fr := by omega
   rw [eB]
   have q1 : q < qq (mx b fr - fr) ms ↔ p < qq (mx b fr) ms := by
    have : qq (mx b fr) ms = qq (mx b fr - fr) ms + qq fr ms := by rw [← qq_add1 (by omega)]; congr 1; omega
    rw [this, ← hp']
    exact Rat.add_lt_add_right.symm
   have q2 : q < qq (mn (b + x.f0) te - fr) ms ↔ p < qq (mn (b + x.f0) te) ms := by
    have : qq (mn (b + x.f0) te) ms = qq (mn (b + x.f0) te - fr) ms + qq fr ms := by rw [← qq_add1 (by omega)]; congr 1; omega
    rw [this, ← hp']
    exact Rat.add_lt_add_right.symm
   have hsh : q - qq (mx b fr - fr) ms + qq (mx b fr - b) ms = p - qq b ms := by
    have e3 : qq (mx b fr) ms = qq (mx b fr - fr) ms + qq fr ms := by rw [← qq_add1 (by omega)]; congr 1; omega
    have e4 : qq (mx b fr) ms = qq (mx b fr - b) ms + qq b ms := by rw [← qq_add1 (by omega)]; congr 1; omega
    grind
   rw [hsh]
   have hrest : medL ms ts q (mn (b + x.f0) te - fr) (pcs ms ts fr te (b + x.f0) t) = if p < qq te ms then (if p < qq (mn (b + x.f0) te) ms then noV else medL ms ts p (b + x.f0) t) else noV := by
    by_cases h2 : b + x.f0 ≤ te
    ·have e2 : mn (b + x.f0) te = mx (b + x.f0) fr := by unfold mn mx; unfold mn mx at h1; split at h1 <;> split at h1 <;> split <;> split <;> omega
     have e5 : mn (b + x.f0) te = b + x.f0 := by unfold mn; split <;> omega
     rw [e2, ih, ← e2, e5]
     by_cases h3 : p < qq te ms
     ·rw [if_pos h3, if_pos h3]
      split
      ·rename_i h4
       exact med_low hm t _ h0t h4
      ·rfl
     ·rw [if_neg h3, if_neg h3]
    ·have e5 : mn (b + x.f0) te = te := by unfold mn; split <;> omega
     rw [pcs_end t (b + x.f0) hV2 (by have := mx_ge (b + x.f0) fr; omega), e5]
     show noV = _
     by_cases h3 : p < qq te ms
     ·rw [if_pos h3, if_pos h3]
     ·rw [if_neg h3]
   rw [hrest]
   have l1 := (qq_le1 (a := mn (b + x.f0) te) (b := te) hm).2 (by omega)
   have l2 := (qq_le1 (a := mn (b + x.f0) te) (b := b + x.f0) hm).2 (by omega)
   have l3 := (qq_le1 (a := b) (b := mx b fr) hm).2 (by omega)
   have l4 := (qq_le1 (a := mx b fr) (b := mn (b + x.f0) te) hm).2 (by omega)
   rw [med_cons]
   by_cases s1 : p < qq (mx b fr) ms
   ·have s2 := lt_le s1 l4
    have s3 := lt_le s2 l1
    have hbf : fr < b := by
     refine Int.not_le.1 fun h => ?_
     have : mx b fr = fr := by unfold mx; split <;> omega
     rw [this] at s1
     exact absurd s1 (Rat.not_lt.2 hpf)
    have e6 : mx b fr = b := by unfold mx; split <;> omega
    rw [e6] at s1
    rw [if_pos (q1.2 (by rw [e6]; exact s1)), if_pos s3, if_pos s2, if_pos s3, if_pos s1]
    exact (med_low hm t _ h0t (lt_le s2 l2)).symm
   ·have s4 : ¬ p < qq b ms := fun h => s1 (lt_le h l3)
    rw [if_neg (fun h => s1 (q1.1 h)), if_neg s4]
    by_cases s2 : p < qq (mn (b + x.f0) te) ms
    ·rw [if_pos (q2.2 s2), if_pos (lt_le s2 l1), if_pos (lt_le s2 l2)]
    ·rw [if_neg (fun h => s2 (q2.1 h)), if_neg s2]
     by_cases s3 : p < qq te ms
     ·rw [if_pos s3, if_pos s3]
      have e7 : mn (b + x.f0) te = b + x.f0 := by
       unfold mn at s2 ⊢
       split at s2
       ·exact absurd s3 s2
       ·rename_i h
        rw [if_neg h]
      rw [e7] at s2
      rw [if_neg s2]
     ·rw [if_neg s3, if_neg s3]
theorem cutV_med {ms ts fr te : Int} {l : List Ed} (h : (cutV ms ts fr te l).2 = 0) : chk l ms ts = 0 ∧ chk (cutV ms ts fr te l).1 ms ts = 0 ∧ cutOk fr te ∧ ∀ q, medL ms ts q 0 (cutV ms ts fr te l).1 = if q < 0 then noV else if q + qq fr ms < qq te ms then medL ms ts (q + qq fr ms) 0 l else noV := by
 unfold cutV at h ⊢
 by_cases h0 : chk l ms ts = 0
 ·rw [if_pos h0] at h ⊢
  by_cases h1 : cutOk fr te
  ·rw [if_pos h1] at h ⊢
   obtain ⟨hc, hl, hV, hs⟩ := chk_ok.1 h0
   obtain ⟨h2, h3⟩ := cutL_ok l [] 0 h
   rw [List.nil_append] at h3
   rw [h3] at h ⊢
   have hV2 := pcs_vd hc h1.1.1 h1.2.1.2 l 0 (by omega) h2 hV
   obtain ⟨h4, h5, h6⟩ := nrmV_ok hc hV2 h
   rw [h4]
   refine ⟨h0, h5, h1, fun q => ?_⟩
   rw [nrm_med hc hV2]
   have c0 := hc.m0
   by_cases hq : q < 0
   ·rw [if_pos hq]
    exact med_low (by omega) _ 0 (fun y hy => by have := (hV2 y hy).d0; omega) (by rw [qq_zero]; exact hq)
   ·rw [if_neg hq]
    have hm := pcs_med hc h1.1.1 h1.2.2 (Rat.not_lt.1 hq) l 0 (by omega) h2 hV
    have e : mx 0 fr - fr = 0 := by have := h1.1.1; unfold mx; split <;> omega
    rw [e] at hm
    exact hm
  ·rw [if_neg h1] at h
   cases h
 ·rw [if_neg h0] at h
  exact absurd h h0
end Go.Proofs.Ytpbhepdgamoiaaa.Ct
namespace Go.Proofs.Ytpbhepdgamoiaaa.Jn
open Go.RowKit Go Go.Proofs.YtpbhepdgamoiaaaW.PrintWords Go.Proofs.YtpbhepdgamoiaaaW.PrintLast Go.Proofs.YtpbhepdgamoiaaaW.PrintMore Go.Proofs.Ytpbhepdgamoiaaa.Mn Go.Proofs.Ytpbhepdgamoiaaa.Nd Go.Proofs.Ytpbhepdgamoiaaa.Z Go.Proofs.Ytpbhepdgamoiaaa.Rf Go.Proofs.Ytpbhepdgamoiaaa.Er Go.Proofs.Ytpbhepdgamoiaaa.Ek Go.Proofs.Ytpbhepdgamoiaaa.Et Go.Proofs.Ytpbhepdgamoiaaa.E Go.Proofs.Ytpbhepdgamoiaaa.Pe Go.Proofs.Ytpbhepdgamoiaaa.Pf Go.Proofs.Ytpbhepdgamoiaaa.Ct
set_option linter.unusedVariables false
set_option linter.unusedSimpArgs false
def LP (w : World) (l : List Ed) (e : Ending) (w' : World) : Prop := ∃ v, e = .returned v ∧ Kd.R k77 77 w' w.heap.size (fun _ => True) v l ∧ Below w.heap.size w w'
set_option maxHeartbeats 4000000 in
set_option maxRecDepth 100000 in
theorem grow_n (n : Int) (w : World) (h0 : 0 ≤ n) (h1 : n ≤ 1000) :
  Calls Try.prog 136 #[.slice none 0 0, .int .i64 n] w (LP w []) := by
 have HN := Aside0.mk (And.intro h0 h1)
 have hn0 : decide (n < 0) = false := decide_eq_false (by omega)
 have hw0 : wrap64 (n - 0) = n := by rw [Int.sub_zero]; exact w64 (by omega) (by omega)
 by_cases hn : n > 0
 ·have hnb : decide (n > 0) = true := decide_eq_true hn
  go_enter Try.func136, Try.ntmps136
  go_wp2_with (first | ((with_reducible refine gate_builtin (b := .append) (xs := #[.tmp 20, .tmp 21]) rfl ?_); at_builtin; refine Kd.R_append_zeros k77 (w0 := w) w.heap.size rfl (.tmp 20) (.tmp 21) 22 3 77 (.agg #[(.int .i64 0), (.int .i64 0), (.int .i64 0), (.int .i64 0)]) 32 rfl Try.underlying22 Try.underlying3 info77 rfl (by decide) (by omega) (.slice none 0 0) [] z77 n (fun _ => True) rfl rfl (k77_mkM _ _ _ z77) (fun _ _ => trivial) (Kd.R_nil _ _ _ _ _) HN.out.1 (Below.refl _ _) (Nat.le_refl _) (by have := HN.out; simp only [List.length_nil]; omega) ?_; intro v1 w1 ho hb hg hat; obtain ⟨A1, c1, e1⟩ := Kd.R_slice ho; subst e1; have HO := Aside0.mk (And.intro ho hb); clear ho hb hg hat))
  go_ret
  refine ⟨_, rfl, ?_, HO.out.2⟩
  have := Kd.R_take (m := 0) HO.out.1 (Nat.zero_le _)
  simpa using this
 ·have hnb : decide (n > 0) = false := decide_eq_false hn
  go_enter Try.func136, Try.ntmps136
  go_wp2_with fail
  go_ret
  exact ⟨_, rfl, Kd.R_nil _ _ _ _ _, Below.refl _ _⟩
set_option maxHeartbeats 8000000 in
set_option maxRecDepth 100000 in
theorem concat_n (g : Nat) (A0 A1 : Option Addr) (c0 c1 : Nat) (l0 l1 : List Ed) (w : World) (hg : w.heap[g]? = some (.cells #[.slice A0 l0.length c0, .slice A1 l1.length c1] 22 (0, 0))) (h0 : Kd.C k77 w A0 l0.length l0) (h1 : Kd.C k77 w A1 l1.length l1) (hl0 : l0.length ≤ 400) (hl1 : l1.length ≤ 400) :
  Calls Try.prog 95 #[.slice (some ⟨g, 0, none⟩) 2 2] w (LP w (l0 ++ l1)) := by
 have HG := Aside0.mk (And.intro hg (And.intro h0 h1))
 have HL := Aside0.mk (And.intro hl0 hl1)
 have hwa : wrap64 (l0.length : Int) = l0.length := w64 (by omega) (by omega)
 have hwb : wrap64 ((l0.length : Int) + (l1.length : Int)) = (l0.length : Int) + l1.length := w64 (by omega) (by omega)
 have hna : decide (wrap64 (l0.length : Int) < 0) = false := decide_eq_false (by rw [hwa]; omega)
 have hnb : decide (wrap64 ((l0.length : Int) + (l1.length : Int)) < 0) = false := decide_eq_false (by rw [hwb]; omega)
 clear hg h0 h1 hl0 hl1
 go_enter Try.func95, Try.ntmps95
 go_wp2_with fail
 go_loopg [3, 11] 2 (fun kq v3 v11 w' => ∃ i s : Int, v3 = .int .i64 s ∧ v11 = .int .i64 i ∧ Aside0 (Below w.heap.size w w') ∧ Aside0 ((i = 0 ∧ s = 0 ∧ kq = 2) ∨ (i = 1 ∧ s = l0.length ∧ kq = 1) ∨ (i = 2 ∧ s = (l0.length : Int) + l1.length ∧ kq = 0)))
 case atStart => exact ⟨0, 0, rfl, rfl, ⟨Below.refl _ _⟩, ⟨.inl ⟨rfl, rfl, rfl⟩⟩⟩
 case round =>
  obtain ⟨i, s, rfl, rfl, HB, hi⟩ := hrel
  have hg1 := blk_below HG.out.1 HB.out
  rcases hi.out with ⟨rfl, rfl, rfl⟩ | ⟨rfl, rfl, rfl⟩ | ⟨rfl, rfl, rfl⟩
  ·have q0 : wr.cell? ⟨g, 0, none⟩ = some (.slice A0 l0.length c0) := (blk_cell hg1 0).trans rfl
   clear hg1 hi
   go_wp2_with fail
   go_roundg 1
   case measure => omega
   case rel => exact ⟨1, l0.length, by first | rfl | (rw [hwa]), by first | rfl | decide, ⟨HB.out⟩, ⟨.inr (.inl ⟨rfl, rfl, rfl⟩)⟩⟩
  ·have q0 : wr.cell? ⟨g, 1, none⟩ = some (.slice A1 l1.length c1) := (blk_cell hg1 1).trans rfl
   clear hg1 hi
   go_wp2_with fail
   go_roundg 0
   case measure => omega
   case rel => exact ⟨2, (l0.length : Int) + l1.length, by first | rfl | (rw [hwb]), by first | rfl | decide, ⟨HB.out⟩, ⟨.inr (.inr ⟨rfl, rfl, rfl⟩)⟩⟩
  ·clear hg1 hi
   go_wp2_with fail
   refine (grow_n ((l0.length : Int) + l1.length) wr (by omega) (by have := HL.out; omega)).mono ?_
   rintro e w2 ⟨v, rfl, hr2, hb2⟩
   have HB1 := Aside0.mk (HB.out.trans (hb2.mono HB.out.size))
   have HO1 := Aside0.mk (Kd.R_lower hr2 HB.out.size)
   clear hr2 hb2 HB
   go_wp2_with fail
   go_loopg [6, 27] 2 (fun kq v6 v27 w' => ∃ (i : Int) (x : List Ed), v27 = .int .i64 i ∧ Aside0 (Below w.heap.size w w') ∧ Aside0 (Kd.R k77 77 w' w.heap.size (fun _ => True) v6 x) ∧ Aside0 ((i = 0 ∧ x = [] ∧ kq = 2) ∨ (i = 1 ∧ x = l0 ∧ kq = 1) ∨ (i = 2 ∧ x = l0 ++ l1 ∧ kq = 0)))
   case atStart => exact ⟨0, [], rfl, ⟨HB1.out⟩, ⟨HO1.out⟩, ⟨.inl ⟨rfl, rfl, rfl⟩⟩⟩
   case round =>
    clear HB1 HO1
    obtain ⟨i, x, rfl, HB, HO, hi⟩ := hrel
    have hg1 := blk_below HG.out.1 HB.out
    rcases hi.out with ⟨rfl, rfl, rfl⟩ | ⟨rfl, rfl, rfl⟩ | ⟨rfl, rfl, rfl⟩
    ·have q0 : wr.cell? ⟨g, 0, none⟩ = some (.slice A0 l0.length c0) := (blk_cell hg1 0).trans rfl
     clear hg1 hi
     go_wp2_with (first | ((with_reducible refine gate_builtin (b := .append) (xs := #[.tmp 31, .tmp 32]) rfl ?_); at_builtin; refine Kd.R_append_rows k77 (w0 := w) w.heap.size rfl (.tmp 31) (.tmp 32) 22 77 (.agg #[(.int .i64 0), (.int .i64 0), (.int .i64 0), (.int .i64 0)]) 32 rfl Try.underlying22 info77 rfl (by decide) (by omega) u6 [] l0 _ _ _ (fun _ => True) (fun _ => False) rfl rfl HO.out (Kd.C_below HG.out.2.1 HB.out) (fun _ _ h => h) (fun _ h => h.elim) (fun _ _ => trivial) HB.out HB.out.size (by have := HL.out; (try simp only [List.length_nil]); omega) ?_; intro v6' w9 ho hb hg hat; have HO2 := Aside0.mk ho; have HB2 := Aside0.mk hb; clear ho hb hg hat))
     go_roundg 1
     case measure => omega
     case rel => exact ⟨1, l0, by first | rfl | decide, ⟨HB2.out⟩, ⟨HO2.out⟩, ⟨.inr (.inl ⟨rfl, rfl, rfl⟩)⟩⟩
    ·have q0 : wr.cell? ⟨g, 1, none⟩ = some (.slice A1 l1.length c1) := (blk_cell hg1 1).trans rfl
     clear hg1 hi
     go_wp2_with (first | ((with_reducible refine gate_builtin (b := .append) (xs := #[.tmp 31, .tmp 32]) rfl ?_); at_builtin; refine Kd.R_append_rows k77 (w0 := w) w.heap.size rfl (.tmp 31) (.tmp 32) 22 77 (.agg #[(.int .i64 0), (.int .i64 0), (.int .i64 0), (.int .i64 0)]) 32 rfl Try.underlying22 info77 rfl (by decide) (by omega) u6 x l1 _ _ _ (fun _ => True) (fun _ => False) rfl rfl HO.out (Kd.C_below HG.out.2.2 HB.out) (fun _ _ h => h) (fun _ h => h.elim) (fun _ _ => trivial) HB.out HB.out.size (by have := HL.out; (try simp only [List.length_nil]); omega) ?_; intro v6' w9 ho hb hg hat; have HO2 := Aside0.mk ho; have HB2 := Aside0.mk hb; clear ho hb hg hat))
     go_roundg 0
     case measure => omega
     case rel => exact ⟨2, x ++ l1, by first | rfl | decide, ⟨HB2.out⟩, ⟨HO2.out⟩, ⟨.inr (.inr ⟨rfl, rfl, rfl⟩)⟩⟩
    ·clear hg1 hi
     go_wp2_with fail
     go_ret
     exact ⟨_, rfl, HO.out, HB.out⟩
def TP (w : World) (r : List Ed × Int) (e : Ending) (w' : World) : Prop := ∃ v, e = .returned (.tuple #[v, .int .i64 r.2]) ∧ Kd.R k77 77 w' w.heap.size (fun _ => True) v r.1 ∧ Below w.heap.size w w'
theorem TP.below {w w1 : World} {r : List Ed × Int} {e : Ending} {w' : World} (h : TP w1 r e w') (hb : Below w.heap.size w w1) : TP w r e w' := by
 obtain ⟨v, he, hr, hb2⟩ := h
 exact ⟨v, he, Kd.R_lower hr hb.size, hb.trans (hb2.mono hb.size)⟩
theorem normal_n {ms ts : Int} (hc : Ck ms ts) (A : Option Addr) (c : Nat) (l : List Ed) (hV : ∀ x ∈ l, Vd x) (hl : l.length ≤ 1000000000) (w : World) (hr : Kd.C k77 w A l.length l) (hcc : l.length ≤ c) :
  Calls Try.prog 57 #[.agg #[.int .i64 ms, .int .i64 ts], .slice A l.length c] w (TP w (nrmV ms ts l)) := by
 obtain ⟨k, hk⟩ := (normal_f hc l hV hl).rounds
 exact edit_clocks_normal.calls k ms ts A c l _ _ w hr hcc hk
def joinV (ms ts : Int) (a b : List Ed) : List Ed × Int := if chk a ms ts = 0 then (if chk b ms ts = 0 then nrmV ms ts (a ++ b) else ([], chk b ms ts)) else ([], chk a ms ts)
set_option maxHeartbeats 8000000 in
set_option maxRecDepth 100000 in
theorem join_n (A0 A1 : Option Addr) (c0 c1 : Nat) (l0 l1 : List Ed) (ms ts : Int) (w : World) (h0 : Kd.C k77 w A0 l0.length l0) (hc0 : l0.length ≤ c0) (h1 : Kd.C k77 w A1 l1.length l1) (hc1 : l1.length ≤ c1) :
  Calls Try.prog 48 #[.slice A0 l0.length c0, .slice A1 l1.length c1, .int .i64 ms, .int .i64 ts] w (TP w (joinV ms ts l0 l1)) := by
 have hu := Try.underlying79
 have hu2 := Try.underlying115
 have HG := Aside0.mk (And.intro (And.intro h0 hc0) (And.intro h1 hc1))
 have HV := Aside0.mk (show joinV ms ts l0 l1 = if chk l0 ms ts = 0 then (if chk l1 ms ts = 0 then nrmV ms ts (l0 ++ l1) else ([], chk l1 ms ts)) else ([], chk l0 ms ts) from rfl)
 have HK := Aside0.mk (show chk l0 ms ts = 0 → chk l1 ms ts = 0 → Ck ms ts ∧ (∀ x ∈ l0 ++ l1, Vd x) ∧ l0.length ≤ 20 ∧ l1.length ≤ 20 by
  intro e1 e2
  obtain ⟨a1, a2, a3, a4⟩ := chk_ok.1 e1
  obtain ⟨b1, b2, b3, b4⟩ := chk_ok.1 e2
  exact ⟨a1, fun x hx => (List.mem_append.1 hx).elim (a3 x) (b3 x), a2, b2⟩)
 generalize joinV ms ts l0 l1 = V at *
 clear h0 hc0 h1 hc1
 go_enter Try.func48, Try.ntmps48
 go_wp2_with fail
 have hst := Aside0.mk (And.intro (blk_new w (.cells #[.slice A0 l0.length c0, .slice A1 l1.length c1] 22 (0, 0))) (below_alloc (Below.refl w.heap.size w) (.cells #[.slice A0 l0.length c0, .slice A1 l1.length c1] 22 (0, 0))))
 go_loopg [17] 2 (fun kq v17 w' => ∃ i : Int, v17 = .int .i64 i ∧ Aside0 (w'.heap[w.heap.size]? = some (.cells #[.slice A0 l0.length c0, .slice A1 l1.length c1] 22 (0, 0)) ∧ Below w.heap.size w w') ∧ Aside0 ((i = 0 ∧ kq = 2) ∨ (i = 1 ∧ chk l0 ms ts = 0 ∧ kq = 1) ∨ (i = 2 ∧ chk l0 ms ts = 0 ∧ chk l1 ms ts = 0 ∧ kq = 0)))
 case atStart => exact ⟨0, rfl, ⟨hst.out⟩, ⟨.inl ⟨rfl, rfl⟩⟩⟩
 case round =>
  clear hst
  obtain ⟨i, rfl, HB, hi⟩ := hrel
  rcases hi.out with ⟨rfl, rfl⟩ | ⟨rfl, e1, rfl⟩ | ⟨rfl, e1, e2, rfl⟩
  ·have q0 : wr.cell? ⟨w.heap.size, 0, none⟩ = some (.slice A0 l0.length c0) := (blk_cell HB.out.1 0).trans rfl
   clear hi
   go_wp2_with fail
   refine (check_n A0 c0 l0 ms ts wr (Kd.C_below HG.out.1.1 HB.out.2) HG.out.1.2).mono ?_
   rintro e w2 ⟨rfl, hb2⟩
   have HB2 := Aside0.mk (And.intro (blk_below HB.out.1 hb2) (HB.out.2.trans (hb2.mono HB.out.2.size)))
   clear hb2 HB q0
   by_cases hz : chk l0 ms ts = 0
   ·have HZ := Aside0.mk hz
    rw [hz]
    clear hz
    go_wp2_with fail
    go_roundg 1
    case measure => omega
    case rel => exact ⟨1, by first | rfl | decide, ⟨HB2.out⟩, ⟨.inr (.inl ⟨rfl, HZ.out, rfl⟩)⟩⟩
   ·have HV2 := Aside0.mk (show V = ([], chk l0 ms ts) by rw [HV.out, if_neg hz])
    clear HV HK
    generalize chk l0 ms ts = C at *
    go_wp2_with fail
    go_ret2
    rw [HV2.out]
    exact ⟨_, rfl, Kd.R_nil _ _ _ _ _, HB2.out.2⟩
  ·have q0 : wr.cell? ⟨w.heap.size, 1, none⟩ = some (.slice A1 l1.length c1) := (blk_cell HB.out.1 1).trans rfl
   have E1 := Aside0.mk e1
   clear hi e1
   go_wp2_with fail
   refine (check_n A1 c1 l1 ms ts wr (Kd.C_below HG.out.2.1 HB.out.2) HG.out.2.2).mono ?_
   rintro e w2 ⟨rfl, hb2⟩
   have HB2 := Aside0.mk (And.intro (blk_below HB.out.1 hb2) (HB.out.2.trans (hb2.mono HB.out.2.size)))
   clear hb2 HB q0
   by_cases hz : chk l1 ms ts = 0
   ·have HZ := Aside0.mk hz
    rw [hz]
    clear hz
    go_wp2_with fail
    go_roundg 0
    case measure => omega
    case rel => exact ⟨2, by first | rfl | decide, ⟨HB2.out⟩, ⟨.inr (.inr ⟨rfl, E1.out, HZ.out, rfl⟩)⟩⟩
   ·have HV2 := Aside0.mk (show V = ([], chk l1 ms ts) by rw [HV.out, if_pos E1.out, if_neg hz])
    clear HV HK E1
    generalize chk l1 ms ts = C at *
    go_wp2_with fail
    go_ret2
    rw [HV2.out]
    exact ⟨_, rfl, Kd.R_nil _ _ _ _ _, HB2.out.2⟩
  ·have HV2 := Aside0.mk (show V = nrmV ms ts (l0 ++ l1) by rw [HV.out, if_pos e1, if_pos e2])
   have HQ := Aside0.mk (HK.out e1 e2)
   clear HV HK hi e1 e2
   have hg2 := Aside0.mk (blk_new wr (.cells #[.slice A0 l0.length c0, .slice A1 l1.length c1] 22 (0, 0)))
   have hb2 := Aside0.mk (HB.out.2.trans ((below_alloc (Below.refl wr.heap.size wr) (.cells #[.slice A0 l0.length c0, .slice A1 l1.length c1] 22 (0, 0))).mono HB.out.2.size))
   go_wp2_with fail
   refine (concat_n wr.heap.size A0 A1 c0 c1 l0 l1 _ hg2.out (Kd.C_below HG.out.1.1 hb2.out) (Kd.C_below HG.out.2.1 hb2.out) (by have := HQ.out.2.2.1; omega) (by have := HQ.out.2.2.2; omega)).mono ?_
   rintro e w3 ⟨v, rfl, hr3, hb3⟩
   have HB3 := Aside0.mk (And.intro hr3 (hb2.out.trans (hb3.mono hb2.out.size)))
   obtain ⟨A3, c3, rfl⟩ := Kd.R_slice hr3
   have HQ2 := Aside0.mk (And.intro HQ.out.1 (And.intro HQ.out.2.1 (show (l0 ++ l1).length ≤ 1000000000 by have := HQ.out.2.2; simp only [List.length_append]; omega)))
   clear hr3 hb3 hg2 hb2 HB HQ
   generalize l0 ++ l1 = L at *
   go_wp2_with fail
   refine (normal_n HQ2.out.1 A3 c3 L HQ2.out.2.1 HQ2.out.2.2 w3 (Kd.R_reads' HB3.out.1).2.2 (Kd.R_reads' HB3.out.1).2.1).mono ?_
   rintro e w4 ⟨v4, rfl, hr4, hb4⟩
   have H4 := Aside0.mk (And.intro (Kd.R_lower hr4 HB3.out.2.size) (HB3.out.2.trans (hb4.mono HB3.out.2.size)))
   obtain ⟨A4, c4, rfl⟩ := Kd.R_slice hr4
   clear hr4 hb4
   rw [← HV2.out] at H4 ⊢
   go_wp2_with fail
   go_ret2
   exact ⟨_, rfl, H4.out.1, H4.out.2⟩
structure Dx (w W : World) (ms ts : Int) (g : Nat) : Prop where
 c : W.heap[g]? = some (clO ms ts)
 below : Below w.heap.size w W
theorem Dx.step {w W W2 : World} {ms ts : Int} {g : Nat} (h : Dx w W ms ts g) (hb : Below W.heap.size W W2) : Dx w W2 ms ts g := ⟨blk_below h.c hb, h.below.trans (hb.mono h.below.size)⟩
theorem Dx.start {w W : World} (ms ts : Int) (h : Below w.heap.size w W) : Dx w (W.alloc (clO ms ts)) ms ts W.heap.size := ⟨blk_new W _, h.trans ((below_alloc (Below.refl W.heap.size W) _).mono h.size)⟩
end Go.Proofs.Ytpbhepdgamoiaaa.Jn
namespace Go.Proofs.Ytpbhepdgamoiaaa.E
open Go.RowKit Go Go.Proofs.YtpbhepdgamoiaaaW.PrintWords Go.Proofs.YtpbhepdgamoiaaaW.PrintLast Go.Proofs.YtpbhepdgamoiaaaW.PrintMore Go.Proofs.Ytpbhepdgamoiaaa.Pe Go.Proofs.Ytpbhepdgamoiaaa.Jn
def edit_Join.f (l0 : List (S77)) (l1 : List (S77)) (a2 : Int) (a3 : Int) : Option ((List (S77)) × Int) := some (joinV a2 a3 l0 l1)
theorem edit_Join.calls (A0 : Option Addr) (c0 : Nat) (l0 : List (S77)) (A1 : Option Addr) (c1 : Nat) (l1 : List (S77)) (a2 : Int) (a3 : Int) (r1 : List (S77)) (r2 : Int) (w : World) (hr0 : Kd.C k77 w A0 l0.length l0) (hc0 : l0.length ≤ c0) (hr1 : Kd.C k77 w A1 l1.length l1) (hc1 : l1.length ≤ c1) (h : edit_Join.f l0 l1 a2 a3 = some (r1, r2)) :
  Calls Try.prog 48 #[.slice A0 l0.length c0, .slice A1 l1.length c1, .int .i64 a2, .int .i64 a3] w fun e w' => ∃ v0_ : Value, e = .returned (.tuple #[v0_, .int .i64 r2]) ∧ Kd.R k77 77 w' w.heap.size (fun _ => True) v0_ r1 ∧ Below w.heap.size w w' := by
 have hV : joinV a2 a3 l0 l1 = (r1, r2) := Option.some.inj h
 have := join_n A0 A1 c0 c1 l0 l1 a2 a3 w hr0 hc0 hr1 hc1
 rw [hV] at this
 exact this
end Go.Proofs.Ytpbhepdgamoiaaa.E
namespace Go.Proofs.Ytpbhepdgamoiaaa.E
open Go.Proofs.Ytpbhepdgamoiaaa.Z Go.RowKit Go.Proofs.YtpbhepdgamoiaaaW.PrintWords Go.Proofs.YtpbhepdgamoiaaaW.PrintLast Go.Proofs.YtpbhepdgamoiaaaW.PrintMore
attribute [local go_sem] max2_int min2_int max_two min_two max_three min_three max_four min_four
set_option linter.unusedVariables false
set_option linter.unusedSimpArgs false
mutual
def dioramalaw10_EditParts.j0 : Nat → List (S77) → Int → List (S77) → List (S77) → Bool → List (S77) → Int → Int → Int → Int → Option (Bool)
  | 0, _, _, _, _, _, _, _, _, _, _ => none
  | k + 1, x7, x8, x9, x11, x62, x1049000, x1049001, x1049002, x1050000, x1050001 => if x62 = true then ((edit_Join.f x9 x11 x1049001 x1049002).bind fun bt1064 => (if bt1064.2 = 0 then ((dioramaref00_EqEdits.f k bt1064.1 x7).bind fun t1068 => (if t1068 = true then (dioramalaw10_EditParts.j1 k x7 x8 x1049000 x1049001 x1049002 x1050000 x1050001) else (some false))) else (some false))) else (dioramalaw10_EditParts.j1 k x7 x8 x1049000 x1049001 x1049002 x1050000 x1050001)
def dioramalaw10_EditParts.j1 : Nat → List (S77) → Int → List (S77) → Int → Int → Int → Int → Option (Bool)
  | 0, _, _, _, _, _, _, _ => none
  | k + 1, x7, x8, x1049000, x1049001, x1049002, x1050000, x1050001 => (edit_Faster.f k x1049000 x1049001 x1049002 x1050000 x1050001).bind fun bt1069 => ((edit_Faster.f k bt1069.1 x1049001 x1049002 x1050001 x1050000).bind fun bt1073 => (if x8 = 0 then (if bt1069.2 = 0 then (if bt1073.2 = 0 then ((dioramaref00_EqEdits.f k bt1073.1 x7).bind fun t1077 => (if t1077 = true then ((dioramalaw10_awake.f k).bind fun t1078 => (some t1078)) else (some false))) else ((dioramalaw10_awake.f k).bind fun t1079 => (some t1079))) else ((dioramalaw10_awake.f k).bind fun t1080 => (some t1080))) else ((dioramalaw10_awake.f k).bind fun t1081 => (some t1081))))
end
def dioramalaw10_EditParts.f (k : Nat) (l0_0 : List (S77)) (a0_1 : Int) (a0_2 : Int) (a1 : Int) (a2_0 : Int) (a2_1 : Int) : Option (Bool) := (dioramalaw10_many.f l0_0).bind fun t1050 => (if t1050 = true then ((dioramalaw10_awake.f k).bind fun t1051 => (some t1051)) else ((edit_Normal.f k l0_0 a0_1 a0_2).bind fun bt1052 => ((edit_Cut.f k l0_0 a0_1 a0_2 0 a1).bind fun bt1056 => ((edit_Cut.f k l0_0 a0_1 a0_2 a1 1099511627776).bind fun bt1060 => (if bt1052.2 = 0 then (if bt1056.2 = 0 then (dioramalaw10_EditParts.j0 k bt1052.1 bt1052.2 bt1056.1 bt1060.1 (bt1060.2 == 0) l0_0 a0_1 a0_2 a2_0 a2_1) else (dioramalaw10_EditParts.j0 k bt1052.1 bt1052.2 bt1056.1 bt1060.1 false l0_0 a0_1 a0_2 a2_0 a2_1)) else (dioramalaw10_EditParts.j0 k bt1052.1 bt1052.2 bt1056.1 bt1060.1 false l0_0 a0_1 a0_2 a2_0 a2_1))))))
set_option maxHeartbeats 8000000 in
set_option maxRecDepth 100000 in
theorem dioramalaw10_EditParts.calls (k : Nat) (A0_0 : Option Addr) (c0_0 : Nat) (l0_0 : List (S77)) (a0_1 : Int) (a0_2 : Int) (a1 : Int) (a2_0 : Int) (a2_1 : Int) (r : Bool) (w : World) (hr0_0 : Kd.C k77 w A0_0 l0_0.length l0_0) (hc0_0 : l0_0.length ≤ c0_0) (h : dioramalaw10_EditParts.f k l0_0 a0_1 a0_2 a1 a2_0 a2_1 = some r) :
  Calls Try.prog 15 #[.agg #[.slice A0_0 l0_0.length c0_0, .int .i64 a0_1, .int .i64 a0_2], .int .i64 a1, .agg #[.int .i64 a2_0, .int .i64 a2_1]] w fun e w' => e = .returned (.bool r) ∧ Below w.heap.size w w' := by
 have hu24 := Try.underlying24; have hu44 := Try.underlying44; have HR0_0 := Aside0.mk hr0_0; have HC0_0 := Aside0.mk hc0_0; clear hr0_0 hc0_0; have HB := Aside0.mk (Below.refl w.heap.size w); have H : ((dioramalaw10_many.f l0_0).bind fun t1050 => (if t1050 = true then ((dioramalaw10_awake.f k).bind fun t1051 => (some t1051)) else ((edit_Normal.f k l0_0 a0_1 a0_2).bind fun bt1052 => ((edit_Cut.f k l0_0 a0_1 a0_2 0 a1).bind fun bt1056 => ((edit_Cut.f k l0_0 a0_1 a0_2 a1 1099511627776).bind fun bt1060 => (if bt1052.2 = 0 then (if bt1056.2 = 0 then (dioramalaw10_EditParts.j0 k bt1052.1 bt1052.2 bt1056.1 bt1060.1 (bt1060.2 == 0) l0_0 a0_1 a0_2 a2_0 a2_1) else (dioramalaw10_EditParts.j0 k bt1052.1 bt1052.2 bt1056.1 bt1060.1 false l0_0 a0_1 a0_2 a2_0 a2_1)) else (dioramalaw10_EditParts.j0 k bt1052.1 bt1052.2 bt1056.1 bt1060.1 false l0_0 a0_1 a0_2 a2_0 a2_1))))))) = some r := h
 clear h; obtain ⟨t1050, A4, H⟩ := ob H
 by_cases c5 : t1050 = true
 ·subst c5; rw [if_pos rfl] at H; obtain ⟨t1051, A6, H⟩ := ob H; obtain rfl := Option.some.inj H
  go_enter Try.func15, Try.ntmps15
  go_wp2_with (first | ((with_reducible refine gate_dst (N := 3) rfl ?_); refine zB 3 24 #[.slice A0_0 l0_0.length c0_0, .int .i64 a0_1, .int .i64 a0_2] ?_; intro gb1048 hg w7 hbox hb; have BK1048 := Aside0.mk hbox; have GW1048 := gz hg; have GE1048 := gz hg; replace HB := bp hb; clear hb hbox hg) | ((with_reducible refine gate_dst (N := 5) rfl ?_); refine zB 5 44 #[.int .i64 a2_0, .int .i64 a2_1] ?_; intro gb1049 hg w8 hbox hb; have BK1049 := Aside0.mk hbox; have GW1049 := gz hg; have GE1049 := gz hg; replace HB := bp hb; have NB1048_1049 := Aside0.mk ((by rw [hg]; exact Nat.ne_of_lt (bl BK1048) : gb1048 ≠ gb1049)); have NB1049_1048 := Aside0.mk ((by rw [hg]; exact Nat.ne_of_gt (bl BK1048) : gb1049 ≠ gb1048)); replace BK1048 := kb BK1048 hb; clear hb hbox hg; have hnb9 := NB1048_1049.out; have hnc9 := NB1049_1048.out; obtain ⟨hcz10_0, hcz10_1, hcz10_2, hfz10_0, hfz10_1, hfz10_2⟩ := xc3 BK1048) | ((with_reducible refine gate_callee (f := 19) rfl ?_); refine zC 19 Try.func19 #[.slice A0_0 l0_0.length c0_0] ?_; (with_reducible refine (dioramalaw10_many.calls _ _ l0_0 true _ ?side1 ?side2 A4.out).mono ?_); (case side1 => exact cz HR0_0); (case side2 => exact HC0_0.out); rintro e w' ⟨rfl, ⟨nd, rfl⟩⟩; refine ⟨_, rfl, ?_⟩) | ((with_reducible refine gate_callee (f := 20) rfl ?_); refine zC 20 Try.func20 #[] ?_; (with_reducible refine (dioramalaw10_awake.calls k  t1051 _ A6.out).mono ?_); rintro e w11 ⟨rfl, hb⟩; refine ⟨_, rfl, ?_⟩; replace BK1048 := kb BK1048 hb; replace BK1049 := kb BK1049 hb; replace HB := bp hb; clear hb))
  go_ret
  exact ⟨ez, bz⟩
 ·obtain rfl := bf c5; rw [if_neg (show ¬ (false = true) by decide)] at H; obtain ⟨⟨t1052, t1053⟩, A12, H⟩ := ob H
  (try dsimp only at H)
  obtain ⟨⟨t1056, t1057⟩, A13, H⟩ := ob H
  (try dsimp only at H)
  obtain ⟨⟨t1060, t1061⟩, A14, H⟩ := ob H
  (try dsimp only at H)
  have HC15 := Aside0.mk H; clear H
  go_enter Try.func15, Try.ntmps15
  go_upto_region 6 with (first | ((with_reducible refine gate_dst (N := 3) rfl ?_); refine zB 3 24 #[.slice A0_0 l0_0.length c0_0, .int .i64 a0_1, .int .i64 a0_2] ?_; intro gb1048 hg w16 hbox hb; have BK1048 := Aside0.mk hbox; have GW1048 := gz hg; have GE1048 := gz hg; replace HB := bp hb; clear hb hbox hg) | ((with_reducible refine gate_dst (N := 5) rfl ?_); refine zB 5 44 #[.int .i64 a2_0, .int .i64 a2_1] ?_; intro gb1049 hg w17 hbox hb; have BK1049 := Aside0.mk hbox; have GW1049 := gz hg; have GE1049 := gz hg; replace HB := bp hb; have NB1048_1049 := Aside0.mk ((by rw [hg]; exact Nat.ne_of_lt (bl BK1048) : gb1048 ≠ gb1049)); have NB1049_1048 := Aside0.mk ((by rw [hg]; exact Nat.ne_of_gt (bl BK1048) : gb1049 ≠ gb1048)); replace BK1048 := kb BK1048 hb; clear hb hbox hg; have hnb18 := NB1048_1049.out; have hnc18 := NB1049_1048.out; obtain ⟨hcz19_0, hcz19_1, hcz19_2, hfz19_0, hfz19_1, hfz19_2⟩ := xc3 BK1048) | ((with_reducible refine gate_callee (f := 19) rfl ?_); refine zC 19 Try.func19 #[.slice A0_0 l0_0.length c0_0] ?_; (with_reducible refine (dioramalaw10_many.calls _ _ l0_0 false _ ?side1 ?side2 A4.out).mono ?_); (case side1 => exact cz HR0_0); (case side2 => exact HC0_0.out); rintro e w' ⟨rfl, ⟨nd, rfl⟩⟩; refine ⟨_, rfl, ?_⟩) | ((with_reducible refine gate_callee (f := 21) rfl ?_); refine zC 28 Try.func21 #[.slice A0_0 l0_0.length c0_0, .int .i64 a0_1, .int .i64 a0_2] ?_; (with_reducible refine (edit_Normal.calls k _ _ l0_0 a0_1 a0_2 t1052 t1053 _ ?side1 ?side2 A12.out).mono ?_); (case side1 => repeat (first | exact (Kd.C_below HR0_0.out bz) | (with_reducible refine Kd.C_alloc ?_ _) | (with_reducible refine Kd.C_drewN ?_ _) | (with_reducible refine Kd.C_drew ?_))); (case side2 => exact HC0_0.out); rintro e w20 ⟨v1054, rfl, ho0, hb⟩; refine ⟨_, rfl, ?_⟩; have HO1055 := Aside0.mk (Kd.R_lower ho0 sz); replace BK1048 := kb BK1048 hb; replace BK1049 := kb BK1049 hb; replace HB := bp hb; clear hb ho0; obtain ⟨hcz21_0, hcz21_1, hcz21_2, hfz21_0, hfz21_1, hfz21_2⟩ := xc3 BK1048) | ((with_reducible refine gate_callee (f := 38) rfl ?_); refine zC 39 Try.func38 #[.slice A0_0 l0_0.length c0_0, .int .i64 a0_1, .int .i64 a0_2, .int .i64 0, .int .i64 a1] ?_; (with_reducible refine (edit_Cut.calls k _ _ l0_0 a0_1 a0_2 0 a1 t1056 t1057 _ ?side1 ?side2 A13.out).mono ?_); (case side1 => exact cz HR0_0); (case side2 => exact HC0_0.out); rintro e w22 ⟨v1058, rfl, ho0, hb⟩; refine ⟨_, rfl, ?_⟩; have HO1059 := Aside0.mk (Kd.R_lower (Kd.R_new' ho0 (Kd.R_lt (rz HO1055))) sz); replace HO1055 := Aside0.mk (Kd.R_elder' (rz HO1055) (Kd.R_base ho0) hb); replace BK1048 := kb BK1048 hb; replace BK1049 := kb BK1049 hb; replace HB := bp hb; clear hb ho0; obtain ⟨hcz23_0, hcz23_1, hcz23_2, hfz23_0, hfz23_1, hfz23_2⟩ := xc3 BK1048) | ((with_reducible refine gate_callee (f := 38) rfl ?_); refine zC 50 Try.func38 #[.slice A0_0 l0_0.length c0_0, .int .i64 a0_1, .int .i64 a0_2, .int .i64 a1, .int .i64 1099511627776] ?_; (with_reducible refine (edit_Cut.calls k _ _ l0_0 a0_1 a0_2 a1 1099511627776 t1060 t1061 _ ?side1 ?side2 A14.out).mono ?_); (case side1 => exact cz HR0_0); (case side2 => exact HC0_0.out); rintro e w24 ⟨v1062, rfl, ho0, hb⟩; refine ⟨_, rfl, ?_⟩; have HO1063 := Aside0.mk (Kd.R_lower (Kd.R_new' (Kd.R_new' ho0 (Kd.R_lt (rz HO1055))) (Kd.R_lt (rz HO1059))) sz); replace HO1055 := Aside0.mk (Kd.R_elder' (rz HO1055) (Kd.R_base ho0) hb); replace HO1059 := Aside0.mk (Kd.R_elder' (rz HO1059) (Kd.R_base ho0) hb); replace BK1048 := kb BK1048 hb; replace BK1049 := kb BK1049 hb; replace HB := bp hb; clear hb ho0))
  (try simp only [Act.put, List.setIfInBounds_toArray, List.set_cons_zero, List.set_cons_succ])
  go_cut [62] (fun v62 wc => ∃ (kq : Nat) (x62_14 : Bool), v62 = .bool x62_14 ∧ Aside0 (dioramalaw10_EditParts.j0 kq t1052 t1053 t1056 t1060 x62_14 l0_0 a0_1 a0_2 a2_0 a2_1 = some r) ∧ Aside0 (kq ≤ k) ∧ Aside0 (Kd.R k77 77 wc w.heap.size (fun k_ => some k_ ≠ (v1058 : Value).ownBlock ∧ some k_ ≠ (v1062 : Value).ownBlock) v1054 t1052) ∧ Aside0 (Kd.R k77 77 wc w.heap.size (fun k_ => some k_ ≠ (v1054 : Value).ownBlock ∧ some k_ ≠ (v1062 : Value).ownBlock) v1058 t1056) ∧ Aside0 (Kd.R k77 77 wc w.heap.size (fun k_ => some k_ ≠ (v1054 : Value).ownBlock ∧ some k_ ≠ (v1058 : Value).ownBlock) v1062 t1060) ∧ Aside0 (wc.heap[gb1048]? = some (.cells #[(.slice A0_0 l0_0.length c0_0), .int .i64 a0_1, .int .i64 a0_2] 24 (0, 0))) ∧ Aside0 (wc.heap[gb1049]? = some (.cells #[.int .i64 a2_0, .int .i64 a2_1] 44 (0, 0))) ∧ Aside0 (Below w.heap.size w wc))
  case first =>
   have H := HC15.out; clear HC15
   by_cases c25 : t1053 = 0
   ·rw [if_pos c25] at H; have c25b0 : (t1053 == 0) = true := beq_iff_eq.mpr c25; have c25b1 : (t1053 != 0) = false := bne_eq_false_iff_eq.mpr c25; clear c25
    (first | rw [c25b0] | (simp only [i64_w, i32_w]; rw [c25b0]) | skip)
    by_cases c26 : t1057 = 0
    ·rw [if_pos c26] at H; have c26b0 : (t1057 == 0) = true := beq_iff_eq.mpr c26; have c26b1 : (t1057 != 0) = false := bne_eq_false_iff_eq.mpr c26; clear c26; have H' := Aside0.mk H; clear H
     go_wp2
     go_meet
     case rel => exact ⟨_, ((t1061 == 0)), jz, H', ⟨by first | omega | exact Nat.le_refl _⟩, ⟨by (with_reducible repeat (first | apply Kd.R_alloc | apply Kd.R_drewN | apply Kd.R_drew)); exact Kd.R_mono HO1055.out (fun _ hk => ⟨hk.1.2, hk.2⟩)⟩, ⟨by (with_reducible repeat (first | apply Kd.R_alloc | apply Kd.R_drewN | apply Kd.R_drew)); exact Kd.R_mono HO1059.out (fun _ hk => ⟨hk.1.2, hk.2⟩)⟩, ⟨by (with_reducible repeat (first | apply Kd.R_alloc | apply Kd.R_drewN | apply Kd.R_drew)); exact Kd.R_mono HO1063.out (fun _ hk => ⟨hk.1.2, hk.2⟩)⟩, ⟨kz⟩, ⟨kz⟩, ⟨bz⟩⟩
    ·rw [if_neg c26] at H; have c26b0 : (t1057 == 0) = false := beq_eq_false_iff_ne.mpr c26; have c26b1 : (t1057 != 0) = true := bne_iff_ne.mpr c26; have H' := Aside0.mk H; clear H
     go_wp2
     go_meet
     case rel => exact ⟨_, (false), jz, H', ⟨by first | omega | exact Nat.le_refl _⟩, ⟨by (with_reducible repeat (first | apply Kd.R_alloc | apply Kd.R_drewN | apply Kd.R_drew)); exact Kd.R_mono HO1055.out (fun _ hk => ⟨hk.1.2, hk.2⟩)⟩, ⟨by (with_reducible repeat (first | apply Kd.R_alloc | apply Kd.R_drewN | apply Kd.R_drew)); exact Kd.R_mono HO1059.out (fun _ hk => ⟨hk.1.2, hk.2⟩)⟩, ⟨by (with_reducible repeat (first | apply Kd.R_alloc | apply Kd.R_drewN | apply Kd.R_drew)); exact Kd.R_mono HO1063.out (fun _ hk => ⟨hk.1.2, hk.2⟩)⟩, ⟨kz⟩, ⟨kz⟩, ⟨bz⟩⟩
   ·rw [if_neg c25] at H; have c25b0 : (t1053 == 0) = false := beq_eq_false_iff_ne.mpr c25; have c25b1 : (t1053 != 0) = true := bne_iff_ne.mpr c25
    (first | rw [c25b0] | (simp only [i64_w, i32_w]; rw [c25b0]) | skip)
    have H' := Aside0.mk H; clear H
    go_wp2
    go_meet
    case rel => exact ⟨_, (false), jz, H', ⟨by first | omega | exact Nat.le_refl _⟩, ⟨by (with_reducible repeat (first | apply Kd.R_alloc | apply Kd.R_drewN | apply Kd.R_drew)); exact Kd.R_mono HO1055.out (fun _ hk => ⟨hk.1.2, hk.2⟩)⟩, ⟨by (with_reducible repeat (first | apply Kd.R_alloc | apply Kd.R_drewN | apply Kd.R_drew)); exact Kd.R_mono HO1059.out (fun _ hk => ⟨hk.1.2, hk.2⟩)⟩, ⟨by (with_reducible repeat (first | apply Kd.R_alloc | apply Kd.R_drewN | apply Kd.R_drew)); exact Kd.R_mono HO1063.out (fun _ hk => ⟨hk.1.2, hk.2⟩)⟩, ⟨kz⟩, ⟨kz⟩, ⟨bz⟩⟩
  case rest =>
   clear HC15
   try clear c1
   try clear c2
   try clear p2
   try clear c3
   try clear c5
   try clear c9
   try clear c15
   try clear c18
   try clear c19
   try clear c20
   try clear c21
   try clear c25
   try clear c25b0
   try clear c25b1
   try clear c26
   try clear c26b0
   try clear c26b1
   try clear hcz10_0
   try clear hcz10_1
   try clear hcz10_2
   try clear hcz19_0
   try clear hcz19_1
   try clear hcz19_2
   try clear hcz21_0
   try clear hcz21_1
   try clear hcz21_2
   try clear hcz23_0
   try clear hcz23_1
   try clear hcz23_2
   try clear hfz10_0
   try clear hfz10_1
   try clear hfz10_2
   try clear hfz19_0
   try clear hfz19_1
   try clear hfz19_2
   try clear hfz21_0
   try clear hfz21_1
   try clear hfz21_2
   try clear hfz23_0
   try clear hfz23_1
   try clear hfz23_2
   obtain ⟨kq, x62_14, rfl, HA, HJ14, HO_7, HO_9, HO_11, BK1048, BK1049, HB⟩ := hcut
   cases kq with
   | zero => exact absurd HA.out (by simp [dioramalaw10_EditParts.j0])
   | succ kj14 =>
    have H := HA.out; clear HA; simp only [dioramalaw10_EditParts.j0] at H; have HC27 := Aside0.mk H; clear H
    go_upto_if 62 with (fail)
    go_cut [] (fun wc => ∃ (kq : Nat), Aside0 (dioramalaw10_EditParts.j1 kq t1052 t1053 l0_0 a0_1 a0_2 a2_0 a2_1 = some r) ∧ Aside0 (kq ≤ kj14) ∧ Aside0 (Kd.R k77 77 wc w.heap.size (fun _ => True) v1054 t1052) ∧ Aside0 (wc.heap[gb1048]? = some (.cells #[(.slice A0_0 l0_0.length c0_0), .int .i64 a0_1, .int .i64 a0_2] 24 (0, 0))) ∧ Aside0 (wc.heap[gb1049]? = some (.cells #[.int .i64 a2_0, .int .i64 a2_1] 44 (0, 0))) ∧ Aside0 (Below w.heap.size w wc))
    case first =>
     have H := HC27.out; clear HC27
     by_cases c28 : x62_14 = true
     ·subst c28; rw [if_pos rfl] at H; obtain ⟨⟨t1064, t1065⟩, A29, H⟩ := ob H
      (try dsimp only at H)
      by_cases c30 : t1065 = 0
      ·rw [if_pos c30] at H; have c30b0 : (t1065 == 0) = true := beq_iff_eq.mpr c30; have c30b1 : (t1065 != 0) = false := bne_eq_false_iff_eq.mpr c30; clear c30
       (first | rw [c30b0] | (simp only [i64_w, i32_w]; rw [c30b0]) | skip)
       obtain ⟨t1068, A31, H⟩ := ob H
       by_cases c32 : t1068 = true
       ·subst c32; rw [if_pos rfl] at H; have H' := Aside0.mk H; clear H; have hnb33 := NB1048_1049.out; have hnc33 := NB1049_1048.out; obtain ⟨hcz34_0, hcz34_1, hcz34_2, hfz34_0, hfz34_1, hfz34_2⟩ := xc3 BK1048; obtain ⟨Ao35, co35, eo35⟩ := Kd.R_slice HO_9.out; subst eo35; obtain ⟨Ao36, co36, eo36⟩ := Kd.R_slice HO_11.out; subst eo36
        go_wp2_with (first | ((with_reducible refine gate_callee (f := 48) rfl ?_); refine zC 70 Try.func48 #[.slice Ao35 t1056.length co35, .slice Ao36 t1060.length co36, .int .i64 a0_1, .int .i64 a0_2] ?_; (with_reducible refine (edit_Join.calls _ _ t1056 _ _ t1060 a0_1 a0_2 t1064 t1065 _ ?side1 ?side2 ?side3 ?side4 A29.out).mono ?_); (case side1 => exact cr HO_9); (case side2 => exact (Kd.R_reads' HO_9.out).2.1); (case side3 => exact cr HO_11); (case side4 => exact (Kd.R_reads' HO_11.out).2.1); rintro e w37 ⟨v1066, rfl, ho0, hb⟩; refine ⟨_, rfl, ?_⟩; have HO1067 := Aside0.mk (Kd.R_lower (Kd.R_new' (Kd.R_new' (Kd.R_new' ho0 (Kd.R_lt (rz HO_7))) (Kd.R_lt (rz HO_9))) (Kd.R_lt (rz HO_11))) sz); replace HO_7 := Aside0.mk (Kd.R_elder' (rz HO_7) (Kd.R_base ho0) hb); replace HO_9 := Aside0.mk (Kd.R_elder' (rz HO_9) (Kd.R_base ho0) hb); replace HO_11 := Aside0.mk (Kd.R_elder' (rz HO_11) (Kd.R_base ho0) hb); replace BK1048 := kb BK1048 hb; replace BK1049 := kb BK1049 hb; replace HB := bp hb; clear hb ho0; obtain ⟨Ao38, co38, eo38⟩ := Kd.R_slice HO1067.out; subst eo38; obtain ⟨Ao39, co39, eo39⟩ := Kd.R_slice HO_7.out; subst eo39) | (go_at_call 42; (with_reducible refine (dioramaref00_EqEdits.calls kj14 _ _ t1064 _ _ t1052 true _ ?side1 ?side2 ?side3 ?side4 A31.out).mono ?_); (case side1 => exact cr HO1067); (case side2 => exact (Kd.R_reads' HO1067.out).2.1); (case side3 => exact cr HO_7); (case side4 => exact (Kd.R_reads' HO_7.out).2.1); rintro e w' ⟨rfl, ⟨nd, rfl⟩⟩))
        go_meet
        case rel => exact ⟨_, H', ⟨by have := HJ14.out; first | omega | exact Nat.le_refl _⟩, ⟨by (with_reducible repeat (first | apply Kd.R_alloc | apply Kd.R_drewN | apply Kd.R_drew)); exact Kd.R_mono HO_7.out (fun _ hk => trivial)⟩, ⟨kz⟩, ⟨kz⟩, ⟨bz⟩⟩
       ·obtain rfl := bf c32; rw [if_neg (show ¬ (false = true) by decide)] at H; obtain rfl := Option.some.inj H; have hnb40 := NB1048_1049.out; have hnc40 := NB1049_1048.out; obtain ⟨hcz41_0, hcz41_1, hcz41_2, hfz41_0, hfz41_1, hfz41_2⟩ := xc3 BK1048; obtain ⟨Ao42, co42, eo42⟩ := Kd.R_slice HO_9.out; subst eo42; obtain ⟨Ao43, co43, eo43⟩ := Kd.R_slice HO_11.out; subst eo43
        go_wp2_with (first | ((with_reducible refine gate_callee (f := 48) rfl ?_); refine zC 70 Try.func48 #[.slice Ao42 t1056.length co42, .slice Ao43 t1060.length co43, .int .i64 a0_1, .int .i64 a0_2] ?_; (with_reducible refine (edit_Join.calls _ _ t1056 _ _ t1060 a0_1 a0_2 t1064 t1065 _ ?side1 ?side2 ?side3 ?side4 A29.out).mono ?_); (case side1 => exact cr HO_9); (case side2 => exact (Kd.R_reads' HO_9.out).2.1); (case side3 => exact cr HO_11); (case side4 => exact (Kd.R_reads' HO_11.out).2.1); rintro e w44 ⟨v1066, rfl, ho0, hb⟩; refine ⟨_, rfl, ?_⟩; have HO1067 := Aside0.mk (Kd.R_lower (Kd.R_new' (Kd.R_new' (Kd.R_new' ho0 (Kd.R_lt (rz HO_7))) (Kd.R_lt (rz HO_9))) (Kd.R_lt (rz HO_11))) sz); replace HO_7 := Aside0.mk (Kd.R_elder' (rz HO_7) (Kd.R_base ho0) hb); replace HO_9 := Aside0.mk (Kd.R_elder' (rz HO_9) (Kd.R_base ho0) hb); replace HO_11 := Aside0.mk (Kd.R_elder' (rz HO_11) (Kd.R_base ho0) hb); replace BK1048 := kb BK1048 hb; replace BK1049 := kb BK1049 hb; replace HB := bp hb; clear hb ho0; obtain ⟨Ao45, co45, eo45⟩ := Kd.R_slice HO1067.out; subst eo45; obtain ⟨Ao46, co46, eo46⟩ := Kd.R_slice HO_7.out; subst eo46) | (go_at_call 42; (with_reducible refine (dioramaref00_EqEdits.calls kj14 _ _ t1064 _ _ t1052 false _ ?side1 ?side2 ?side3 ?side4 A31.out).mono ?_); (case side1 => exact cr HO1067); (case side2 => exact (Kd.R_reads' HO1067.out).2.1); (case side3 => exact cr HO_7); (case side4 => exact (Kd.R_reads' HO_7.out).2.1); rintro e w' ⟨rfl, ⟨nd, rfl⟩⟩))
        go_ret
        exact ⟨ez, bz⟩
      ·rw [if_neg c30] at H; have c30b0 : (t1065 == 0) = false := beq_eq_false_iff_ne.mpr c30; have c30b1 : (t1065 != 0) = true := bne_iff_ne.mpr c30
       (first | rw [c30b0] | (simp only [i64_w, i32_w]; rw [c30b0]) | skip)
       obtain rfl := Option.some.inj H; have hnb47 := NB1048_1049.out; have hnc47 := NB1049_1048.out; obtain ⟨hcz48_0, hcz48_1, hcz48_2, hfz48_0, hfz48_1, hfz48_2⟩ := xc3 BK1048; obtain ⟨Ao49, co49, eo49⟩ := Kd.R_slice HO_9.out; subst eo49; obtain ⟨Ao50, co50, eo50⟩ := Kd.R_slice HO_11.out; subst eo50
       go_wp2_with (first | ((with_reducible refine gate_callee (f := 48) rfl ?_); refine zC 70 Try.func48 #[.slice Ao49 t1056.length co49, .slice Ao50 t1060.length co50, .int .i64 a0_1, .int .i64 a0_2] ?_; (with_reducible refine (edit_Join.calls _ _ t1056 _ _ t1060 a0_1 a0_2 t1064 t1065 _ ?side1 ?side2 ?side3 ?side4 A29.out).mono ?_); (case side1 => exact cr HO_9); (case side2 => exact (Kd.R_reads' HO_9.out).2.1); (case side3 => exact cr HO_11); (case side4 => exact (Kd.R_reads' HO_11.out).2.1); rintro e w51 ⟨v1066, rfl, ho0, hb⟩; refine ⟨_, rfl, ?_⟩; have HO1067 := Aside0.mk (Kd.R_lower (Kd.R_new' (Kd.R_new' (Kd.R_new' ho0 (Kd.R_lt (rz HO_7))) (Kd.R_lt (rz HO_9))) (Kd.R_lt (rz HO_11))) sz); replace HO_7 := Aside0.mk (Kd.R_elder' (rz HO_7) (Kd.R_base ho0) hb); replace HO_9 := Aside0.mk (Kd.R_elder' (rz HO_9) (Kd.R_base ho0) hb); replace HO_11 := Aside0.mk (Kd.R_elder' (rz HO_11) (Kd.R_base ho0) hb); replace BK1048 := kb BK1048 hb; replace BK1049 := kb BK1049 hb; replace HB := bp hb; clear hb ho0))
       go_ret
       exact ⟨ez, bz⟩
     ·obtain rfl := bf c28; rw [if_neg (show ¬ (false = true) by decide)] at H; have H' := Aside0.mk H; clear H
      go_wp2
      go_meet
      case rel => exact ⟨_, H', ⟨by have := HJ14.out; first | omega | exact Nat.le_refl _⟩, ⟨by (with_reducible repeat (first | apply Kd.R_alloc | apply Kd.R_drewN | apply Kd.R_drew)); exact Kd.R_mono HO_7.out (fun _ hk => trivial)⟩, ⟨kz⟩, ⟨kz⟩, ⟨bz⟩⟩
    case rest =>
     clear HC27
     try clear c1
     try clear c2
     try clear p2
     try clear c3
     try clear c4
     try clear c5
     try clear c9
     try clear c15
     try clear c18
     try clear c19
     try clear c20
     try clear c21
     try clear c25
     try clear c25b0
     try clear c25b1
     try clear c26
     try clear c26b0
     try clear c26b1
     try clear c28
     try clear c30
     try clear c30b0
     try clear c30b1
     try clear c32
     try clear c33
     try clear c38
     try clear c40
     try clear c47
     try clear c48
     try clear hcz10_0
     try clear hcz10_1
     try clear hcz10_2
     try clear hcz19_0
     try clear hcz19_1
     try clear hcz19_2
     try clear hcz21_0
     try clear hcz21_1
     try clear hcz21_2
     try clear hcz23_0
     try clear hcz23_1
     try clear hcz23_2
     try clear hcz34_0
     try clear hcz34_1
     try clear hcz34_2
     try clear hcz41_0
     try clear hcz41_1
     try clear hcz41_2
     try clear hcz48_0
     try clear hcz48_1
     try clear hcz48_2
     try clear hfz10_0
     try clear hfz10_1
     try clear hfz10_2
     try clear hfz19_0
     try clear hfz19_1
     try clear hfz19_2
     try clear hfz21_0
     try clear hfz21_1
     try clear hfz21_2
     try clear hfz23_0
     try clear hfz23_1
     try clear hfz23_2
     try clear hfz34_0
     try clear hfz34_1
     try clear hfz34_2
     try clear hfz41_0
     try clear hfz41_1
     try clear hfz41_2
     try clear hfz48_0
     try clear hfz48_1
     try clear hfz48_2
     try clear p2
     obtain ⟨kq, HA, HJ26, HO_7, BK1048, BK1049, HB⟩ := hcut
     cases kq with
     | zero => exact absurd HA.out (by simp [dioramalaw10_EditParts.j1])
     | succ kj26 =>
      have H := HA.out; clear HA; simp only [dioramalaw10_EditParts.j1] at H; obtain ⟨⟨t1069, t1070⟩, A52, H⟩ := ob H
      (try dsimp only at H)
      obtain ⟨⟨t1073, t1074⟩, A53, H⟩ := ob H
      (try dsimp only at H)
      by_cases c54 : t1053 = 0
      ·rw [if_pos c54] at H; have c54b0 : (t1053 == 0) = true := beq_iff_eq.mpr c54; have c54b1 : (t1053 != 0) = false := bne_eq_false_iff_eq.mpr c54; clear c54
       by_cases c55 : t1070 = 0
       ·rw [if_pos c55] at H; have c55b0 : (t1070 == 0) = true := beq_iff_eq.mpr c55; have c55b1 : (t1070 != 0) = false := bne_eq_false_iff_eq.mpr c55; clear c55
        by_cases c56 : t1074 = 0
        ·rw [if_pos c56] at H; have c56b0 : (t1074 == 0) = true := beq_iff_eq.mpr c56; have c56b1 : (t1074 != 0) = false := bne_eq_false_iff_eq.mpr c56; clear c56; obtain ⟨t1077, A57, H⟩ := ob H
         by_cases c58 : t1077 = true
         ·subst c58; rw [if_pos rfl] at H; obtain ⟨t1078, A59, H⟩ := ob H; obtain rfl := Option.some.inj H; have hnb60 := NB1048_1049.out; have hnc60 := NB1049_1048.out; obtain ⟨hcz61_0, hcz61_1, hcz61_2, hfz61_0, hfz61_1, hfz61_2⟩ := xc3 BK1048; obtain ⟨hcz62_0, hcz62_1, hfz62_0, hfz62_1⟩ := xc2 BK1049
          go_wp2_with (first | ((with_reducible refine gate_callee (f := 28) rfl ?_); refine zC 92 Try.func28 #[.slice A0_0 l0_0.length c0_0, .int .i64 a0_1, .int .i64 a0_2, .int .i64 a2_0, .int .i64 a2_1] ?_; (with_reducible refine (edit_Faster.calls kj26 _ _ l0_0 a0_1 a0_2 a2_0 a2_1 t1069 t1070 _ ?side1 ?side2 A52.out).mono ?_); (case side1 => exact cz HR0_0); (case side2 => exact HC0_0.out); rintro e w63 ⟨v1071, rfl, ho0, hb⟩; refine ⟨_, rfl, ?_⟩; have HO1072 := Aside0.mk (Kd.R_lower (Kd.R_new' ho0 (Kd.R_lt (rz HO_7))) sz); replace HO_7 := Aside0.mk (Kd.R_elder' (rz HO_7) (Kd.R_base ho0) hb); replace BK1048 := kb BK1048 hb; replace BK1049 := kb BK1049 hb; replace HB := bp hb; clear hb ho0; obtain ⟨hcz64_0, hcz64_1, hcz64_2, hfz64_0, hfz64_1, hfz64_2⟩ := xc3 BK1048; obtain ⟨hcz65_0, hcz65_1, hfz65_0, hfz65_1⟩ := xc2 BK1049; obtain ⟨Ao66, co66, eo66⟩ := Kd.R_slice HO1072.out; subst eo66) | ((with_reducible refine gate_callee (f := 28) rfl ?_); refine zC 105 Try.func28 #[.slice Ao66 t1069.length co66, .int .i64 a0_1, .int .i64 a0_2, .int .i64 a2_1, .int .i64 a2_0] ?_; (with_reducible refine (edit_Faster.calls kj26 _ _ t1069 a0_1 a0_2 a2_1 a2_0 t1073 t1074 _ ?side1 ?side2 A53.out).mono ?_); (case side1 => exact cr HO1072); (case side2 => exact (Kd.R_reads' HO1072.out).2.1); rintro e w67 ⟨v1075, rfl, ho0, hb⟩; refine ⟨_, rfl, ?_⟩; have HO1076 := Aside0.mk (Kd.R_lower (Kd.R_new' (Kd.R_new' ho0 (Kd.R_lt (rz HO_7))) (Kd.R_lt (rz HO1072))) sz); replace HO_7 := Aside0.mk (Kd.R_elder' (rz HO_7) (Kd.R_base ho0) hb); replace HO1072 := Aside0.mk (Kd.R_elder' (rz HO1072) (Kd.R_base ho0) hb); replace BK1048 := kb BK1048 hb; replace BK1049 := kb BK1049 hb; replace HB := bp hb; clear hb ho0; obtain ⟨Ao68, co68, eo68⟩ := Kd.R_slice HO1076.out; subst eo68; obtain ⟨Ao69, co69, eo69⟩ := Kd.R_slice HO_7.out; subst eo69) | (go_at_call 42; (with_reducible refine (dioramaref00_EqEdits.calls kj26 _ _ t1073 _ _ t1052 true _ ?side1 ?side2 ?side3 ?side4 A57.out).mono ?_); (case side1 => exact cr HO1076); (case side2 => exact (Kd.R_reads' HO1076.out).2.1); (case side3 => exact cr HO_7); (case side4 => exact (Kd.R_reads' HO_7.out).2.1); rintro e w' ⟨rfl, ⟨nd, rfl⟩⟩) | ((with_reducible refine gate_callee (f := 20) rfl ?_); refine zC 124 Try.func20 #[] ?_; (with_reducible refine (dioramalaw10_awake.calls kj26  t1078 _ A59.out).mono ?_); rintro e w70 ⟨rfl, hb⟩; refine ⟨_, rfl, ?_⟩; replace HO_7 := Aside0.mk (Kd.R_below (rz HO_7) hb); replace HO1072 := Aside0.mk (Kd.R_below (rz HO1072) hb); replace HO1076 := Aside0.mk (Kd.R_below (rz HO1076) hb); replace BK1048 := kb BK1048 hb; replace BK1049 := kb BK1049 hb; replace HB := bp hb; clear hb))
          go_ret
          exact ⟨ez, bz⟩
         ·obtain rfl := bf c58; rw [if_neg (show ¬ (false = true) by decide)] at H; obtain rfl := Option.some.inj H; have hnb71 := NB1048_1049.out; have hnc71 := NB1049_1048.out; obtain ⟨hcz72_0, hcz72_1, hcz72_2, hfz72_0, hfz72_1, hfz72_2⟩ := xc3 BK1048; obtain ⟨hcz73_0, hcz73_1, hfz73_0, hfz73_1⟩ := xc2 BK1049
          go_wp2_with (first | ((with_reducible refine gate_callee (f := 28) rfl ?_); refine zC 92 Try.func28 #[.slice A0_0 l0_0.length c0_0, .int .i64 a0_1, .int .i64 a0_2, .int .i64 a2_0, .int .i64 a2_1] ?_; (with_reducible refine (edit_Faster.calls kj26 _ _ l0_0 a0_1 a0_2 a2_0 a2_1 t1069 t1070 _ ?side1 ?side2 A52.out).mono ?_); (case side1 => exact cz HR0_0); (case side2 => exact HC0_0.out); rintro e w74 ⟨v1071, rfl, ho0, hb⟩; refine ⟨_, rfl, ?_⟩; have HO1072 := Aside0.mk (Kd.R_lower (Kd.R_new' ho0 (Kd.R_lt (rz HO_7))) sz); replace HO_7 := Aside0.mk (Kd.R_elder' (rz HO_7) (Kd.R_base ho0) hb); replace BK1048 := kb BK1048 hb; replace BK1049 := kb BK1049 hb; replace HB := bp hb; clear hb ho0; obtain ⟨hcz75_0, hcz75_1, hcz75_2, hfz75_0, hfz75_1, hfz75_2⟩ := xc3 BK1048; obtain ⟨hcz76_0, hcz76_1, hfz76_0, hfz76_1⟩ := xc2 BK1049; obtain ⟨Ao77, co77, eo77⟩ := Kd.R_slice HO1072.out; subst eo77) | ((with_reducible refine gate_callee (f := 28) rfl ?_); refine zC 105 Try.func28 #[.slice Ao77 t1069.length co77, .int .i64 a0_1, .int .i64 a0_2, .int .i64 a2_1, .int .i64 a2_0] ?_; (with_reducible refine (edit_Faster.calls kj26 _ _ t1069 a0_1 a0_2 a2_1 a2_0 t1073 t1074 _ ?side1 ?side2 A53.out).mono ?_); (case side1 => exact cr HO1072); (case side2 => exact (Kd.R_reads' HO1072.out).2.1); rintro e w78 ⟨v1075, rfl, ho0, hb⟩; refine ⟨_, rfl, ?_⟩; have HO1076 := Aside0.mk (Kd.R_lower (Kd.R_new' (Kd.R_new' ho0 (Kd.R_lt (rz HO_7))) (Kd.R_lt (rz HO1072))) sz); replace HO_7 := Aside0.mk (Kd.R_elder' (rz HO_7) (Kd.R_base ho0) hb); replace HO1072 := Aside0.mk (Kd.R_elder' (rz HO1072) (Kd.R_base ho0) hb); replace BK1048 := kb BK1048 hb; replace BK1049 := kb BK1049 hb; replace HB := bp hb; clear hb ho0; obtain ⟨Ao79, co79, eo79⟩ := Kd.R_slice HO1076.out; subst eo79; obtain ⟨Ao80, co80, eo80⟩ := Kd.R_slice HO_7.out; subst eo80) | (go_at_call 42; (with_reducible refine (dioramaref00_EqEdits.calls kj26 _ _ t1073 _ _ t1052 false _ ?side1 ?side2 ?side3 ?side4 A57.out).mono ?_); (case side1 => exact cr HO1076); (case side2 => exact (Kd.R_reads' HO1076.out).2.1); (case side3 => exact cr HO_7); (case side4 => exact (Kd.R_reads' HO_7.out).2.1); rintro e w' ⟨rfl, ⟨nd, rfl⟩⟩))
          go_ret
          exact ⟨ez, bz⟩
        ·rw [if_neg c56] at H; have c56b0 : (t1074 == 0) = false := beq_eq_false_iff_ne.mpr c56; have c56b1 : (t1074 != 0) = true := bne_iff_ne.mpr c56; obtain ⟨t1079, A81, H⟩ := ob H; obtain rfl := Option.some.inj H; have hnb82 := NB1048_1049.out; have hnc82 := NB1049_1048.out; obtain ⟨hcz83_0, hcz83_1, hcz83_2, hfz83_0, hfz83_1, hfz83_2⟩ := xc3 BK1048; obtain ⟨hcz84_0, hcz84_1, hfz84_0, hfz84_1⟩ := xc2 BK1049
         go_wp2_with (first | ((with_reducible refine gate_callee (f := 28) rfl ?_); refine zC 92 Try.func28 #[.slice A0_0 l0_0.length c0_0, .int .i64 a0_1, .int .i64 a0_2, .int .i64 a2_0, .int .i64 a2_1] ?_; (with_reducible refine (edit_Faster.calls kj26 _ _ l0_0 a0_1 a0_2 a2_0 a2_1 t1069 t1070 _ ?side1 ?side2 A52.out).mono ?_); (case side1 => exact cz HR0_0); (case side2 => exact HC0_0.out); rintro e w85 ⟨v1071, rfl, ho0, hb⟩; refine ⟨_, rfl, ?_⟩; have HO1072 := Aside0.mk (Kd.R_lower (Kd.R_new' ho0 (Kd.R_lt (rz HO_7))) sz); replace HO_7 := Aside0.mk (Kd.R_elder' (rz HO_7) (Kd.R_base ho0) hb); replace BK1048 := kb BK1048 hb; replace BK1049 := kb BK1049 hb; replace HB := bp hb; clear hb ho0; obtain ⟨hcz86_0, hcz86_1, hcz86_2, hfz86_0, hfz86_1, hfz86_2⟩ := xc3 BK1048; obtain ⟨hcz87_0, hcz87_1, hfz87_0, hfz87_1⟩ := xc2 BK1049; obtain ⟨Ao88, co88, eo88⟩ := Kd.R_slice HO1072.out; subst eo88) | ((with_reducible refine gate_callee (f := 28) rfl ?_); refine zC 105 Try.func28 #[.slice Ao88 t1069.length co88, .int .i64 a0_1, .int .i64 a0_2, .int .i64 a2_1, .int .i64 a2_0] ?_; (with_reducible refine (edit_Faster.calls kj26 _ _ t1069 a0_1 a0_2 a2_1 a2_0 t1073 t1074 _ ?side1 ?side2 A53.out).mono ?_); (case side1 => exact cr HO1072); (case side2 => exact (Kd.R_reads' HO1072.out).2.1); rintro e w89 ⟨v1075, rfl, ho0, hb⟩; refine ⟨_, rfl, ?_⟩; have HO1076 := Aside0.mk (Kd.R_lower (Kd.R_new' (Kd.R_new' ho0 (Kd.R_lt (rz HO_7))) (Kd.R_lt (rz HO1072))) sz); replace HO_7 := Aside0.mk (Kd.R_elder' (rz HO_7) (Kd.R_base ho0) hb); replace HO1072 := Aside0.mk (Kd.R_elder' (rz HO1072) (Kd.R_base ho0) hb); replace BK1048 := kb BK1048 hb; replace BK1049 := kb BK1049 hb; replace HB := bp hb; clear hb ho0) | ((with_reducible refine gate_callee (f := 20) rfl ?_); refine zC 124 Try.func20 #[] ?_; (with_reducible refine (dioramalaw10_awake.calls kj26  t1079 _ A81.out).mono ?_); rintro e w90 ⟨rfl, hb⟩; refine ⟨_, rfl, ?_⟩; replace HO_7 := Aside0.mk (Kd.R_below (rz HO_7) hb); replace HO1072 := Aside0.mk (Kd.R_below (rz HO1072) hb); replace HO1076 := Aside0.mk (Kd.R_below (rz HO1076) hb); replace BK1048 := kb BK1048 hb; replace BK1049 := kb BK1049 hb; replace HB := bp hb; clear hb))
         go_ret
         exact ⟨ez, bz⟩
       ·rw [if_neg c55] at H; have c55b0 : (t1070 == 0) = false := beq_eq_false_iff_ne.mpr c55; have c55b1 : (t1070 != 0) = true := bne_iff_ne.mpr c55; obtain ⟨t1080, A91, H⟩ := ob H; obtain rfl := Option.some.inj H; have hnb92 := NB1048_1049.out; have hnc92 := NB1049_1048.out; obtain ⟨hcz93_0, hcz93_1, hcz93_2, hfz93_0, hfz93_1, hfz93_2⟩ := xc3 BK1048; obtain ⟨hcz94_0, hcz94_1, hfz94_0, hfz94_1⟩ := xc2 BK1049
        go_wp2_with (first | ((with_reducible refine gate_callee (f := 28) rfl ?_); refine zC 92 Try.func28 #[.slice A0_0 l0_0.length c0_0, .int .i64 a0_1, .int .i64 a0_2, .int .i64 a2_0, .int .i64 a2_1] ?_; (with_reducible refine (edit_Faster.calls kj26 _ _ l0_0 a0_1 a0_2 a2_0 a2_1 t1069 t1070 _ ?side1 ?side2 A52.out).mono ?_); (case side1 => exact cz HR0_0); (case side2 => exact HC0_0.out); rintro e w95 ⟨v1071, rfl, ho0, hb⟩; refine ⟨_, rfl, ?_⟩; have HO1072 := Aside0.mk (Kd.R_lower (Kd.R_new' ho0 (Kd.R_lt (rz HO_7))) sz); replace HO_7 := Aside0.mk (Kd.R_elder' (rz HO_7) (Kd.R_base ho0) hb); replace BK1048 := kb BK1048 hb; replace BK1049 := kb BK1049 hb; replace HB := bp hb; clear hb ho0; obtain ⟨hcz96_0, hcz96_1, hcz96_2, hfz96_0, hfz96_1, hfz96_2⟩ := xc3 BK1048; obtain ⟨hcz97_0, hcz97_1, hfz97_0, hfz97_1⟩ := xc2 BK1049; obtain ⟨Ao98, co98, eo98⟩ := Kd.R_slice HO1072.out; subst eo98) | ((with_reducible refine gate_callee (f := 28) rfl ?_); refine zC 105 Try.func28 #[.slice Ao98 t1069.length co98, .int .i64 a0_1, .int .i64 a0_2, .int .i64 a2_1, .int .i64 a2_0] ?_; (with_reducible refine (edit_Faster.calls kj26 _ _ t1069 a0_1 a0_2 a2_1 a2_0 t1073 t1074 _ ?side1 ?side2 A53.out).mono ?_); (case side1 => exact cr HO1072); (case side2 => exact (Kd.R_reads' HO1072.out).2.1); rintro e w99 ⟨v1075, rfl, ho0, hb⟩; refine ⟨_, rfl, ?_⟩; have HO1076 := Aside0.mk (Kd.R_lower (Kd.R_new' (Kd.R_new' ho0 (Kd.R_lt (rz HO_7))) (Kd.R_lt (rz HO1072))) sz); replace HO_7 := Aside0.mk (Kd.R_elder' (rz HO_7) (Kd.R_base ho0) hb); replace HO1072 := Aside0.mk (Kd.R_elder' (rz HO1072) (Kd.R_base ho0) hb); replace BK1048 := kb BK1048 hb; replace BK1049 := kb BK1049 hb; replace HB := bp hb; clear hb ho0) | ((with_reducible refine gate_callee (f := 20) rfl ?_); refine zC 124 Try.func20 #[] ?_; (with_reducible refine (dioramalaw10_awake.calls kj26  t1080 _ A91.out).mono ?_); rintro e w100 ⟨rfl, hb⟩; refine ⟨_, rfl, ?_⟩; replace HO_7 := Aside0.mk (Kd.R_below (rz HO_7) hb); replace HO1072 := Aside0.mk (Kd.R_below (rz HO1072) hb); replace HO1076 := Aside0.mk (Kd.R_below (rz HO1076) hb); replace BK1048 := kb BK1048 hb; replace BK1049 := kb BK1049 hb; replace HB := bp hb; clear hb))
        go_ret
        exact ⟨ez, bz⟩
      ·rw [if_neg c54] at H; have c54b0 : (t1053 == 0) = false := beq_eq_false_iff_ne.mpr c54; have c54b1 : (t1053 != 0) = true := bne_iff_ne.mpr c54; obtain ⟨t1081, A101, H⟩ := ob H; obtain rfl := Option.some.inj H; have hnb102 := NB1048_1049.out; have hnc102 := NB1049_1048.out; obtain ⟨hcz103_0, hcz103_1, hcz103_2, hfz103_0, hfz103_1, hfz103_2⟩ := xc3 BK1048; obtain ⟨hcz104_0, hcz104_1, hfz104_0, hfz104_1⟩ := xc2 BK1049
       go_wp2_with (first | ((with_reducible refine gate_callee (f := 28) rfl ?_); refine zC 92 Try.func28 #[.slice A0_0 l0_0.length c0_0, .int .i64 a0_1, .int .i64 a0_2, .int .i64 a2_0, .int .i64 a2_1] ?_; (with_reducible refine (edit_Faster.calls kj26 _ _ l0_0 a0_1 a0_2 a2_0 a2_1 t1069 t1070 _ ?side1 ?side2 A52.out).mono ?_); (case side1 => exact cz HR0_0); (case side2 => exact HC0_0.out); rintro e w105 ⟨v1071, rfl, ho0, hb⟩; refine ⟨_, rfl, ?_⟩; have HO1072 := Aside0.mk (Kd.R_lower (Kd.R_new' ho0 (Kd.R_lt (rz HO_7))) sz); replace HO_7 := Aside0.mk (Kd.R_elder' (rz HO_7) (Kd.R_base ho0) hb); replace BK1048 := kb BK1048 hb; replace BK1049 := kb BK1049 hb; replace HB := bp hb; clear hb ho0; obtain ⟨hcz106_0, hcz106_1, hcz106_2, hfz106_0, hfz106_1, hfz106_2⟩ := xc3 BK1048; obtain ⟨hcz107_0, hcz107_1, hfz107_0, hfz107_1⟩ := xc2 BK1049; obtain ⟨Ao108, co108, eo108⟩ := Kd.R_slice HO1072.out; subst eo108) | ((with_reducible refine gate_callee (f := 28) rfl ?_); refine zC 105 Try.func28 #[.slice Ao108 t1069.length co108, .int .i64 a0_1, .int .i64 a0_2, .int .i64 a2_1, .int .i64 a2_0] ?_; (with_reducible refine (edit_Faster.calls kj26 _ _ t1069 a0_1 a0_2 a2_1 a2_0 t1073 t1074 _ ?side1 ?side2 A53.out).mono ?_); (case side1 => exact cr HO1072); (case side2 => exact (Kd.R_reads' HO1072.out).2.1); rintro e w109 ⟨v1075, rfl, ho0, hb⟩; refine ⟨_, rfl, ?_⟩; have HO1076 := Aside0.mk (Kd.R_lower (Kd.R_new' (Kd.R_new' ho0 (Kd.R_lt (rz HO_7))) (Kd.R_lt (rz HO1072))) sz); replace HO_7 := Aside0.mk (Kd.R_elder' (rz HO_7) (Kd.R_base ho0) hb); replace HO1072 := Aside0.mk (Kd.R_elder' (rz HO1072) (Kd.R_base ho0) hb); replace BK1048 := kb BK1048 hb; replace BK1049 := kb BK1049 hb; replace HB := bp hb; clear hb ho0) | ((with_reducible refine gate_callee (f := 20) rfl ?_); refine zC 124 Try.func20 #[] ?_; (with_reducible refine (dioramalaw10_awake.calls kj26  t1081 _ A101.out).mono ?_); rintro e w110 ⟨rfl, hb⟩; refine ⟨_, rfl, ?_⟩; replace HO_7 := Aside0.mk (Kd.R_below (rz HO_7) hb); replace HO1072 := Aside0.mk (Kd.R_below (rz HO1072) hb); replace HO1076 := Aside0.mk (Kd.R_below (rz HO1076) hb); replace BK1048 := kb BK1048 hb; replace BK1049 := kb BK1049 hb; replace HB := bp hb; clear hb))
       go_ret
       exact ⟨ez, bz⟩
end Go.Proofs.Ytpbhepdgamoiaaa.E

namespace Go.Proofs.Ytpbhepdgamoiaaa.Rct
open Go.RowKit Go Go.Proofs.YtpbhepdgamoiaaaW.PrintWords Go.Proofs.YtpbhepdgamoiaaaW.PrintLast Go.Proofs.YtpbhepdgamoiaaaW.PrintMore Go.Proofs.Ytpbhepdgamoiaaa.Mn Go.Proofs.Ytpbhepdgamoiaaa.Rf Go.Proofs.Ytpbhepdgamoiaaa.Er Go.Proofs.Ytpbhepdgamoiaaa.Ek Go.Proofs.Ytpbhepdgamoiaaa.Et Go.Proofs.Ytpbhepdgamoiaaa.Ew Go.Proofs.Ytpbhepdgamoiaaa.E Go.Proofs.Ytpbhepdgamoiaaa.Pe Go.Proofs.Ytpbhepdgamoiaaa.Pf Go.Proofs.Ytpbhepdgamoiaaa.Pg Go.Proofs.Ytpbhepdgamoiaaa.Qr Go.Proofs.Ytpbhepdgamoiaaa.Qn Go.Proofs.Ytpbhepdgamoiaaa.Qo Go.Proofs.Ytpbhepdgamoiaaa.Qp Go.Proofs.Ytpbhepdgamoiaaa.Qw Go.Proofs.Ytpbhepdgamoiaaa.Fr Go.Proofs.Ytpbhepdgamoiaaa.Cl Go.Proofs.Ytpbhepdgamoiaaa.Nm Go.Proofs.Ytpbhepdgamoiaaa.So Go.Proofs.Ytpbhepdgamoiaaa.Ct
set_option linter.unusedVariables false
set_option linter.unusedSimpArgs false
theorem wh_int {m : Int} (h1 : m ≤ 1099511627776) : whV (qq m 1) = (m, 0) := by
 rw [whV_qq (by decide), Int.emod_one, if_pos rfl, Int.ediv_one, if_neg (by omega)]
theorem after_z1 (ms ts m n e : Int) : afterQ ms ts m n e 0 = qq m 1 := by
 unfold afterQ
 rw [qq_zero]
 grind
theorem after_z2 (ms ts m e k : Int) : afterQ ms ts m 0 e k = qq m 1 := by
 unfold afterQ
 rw [qq_zero]
 grind
end Go.Proofs.Ytpbhepdgamoiaaa.Rct

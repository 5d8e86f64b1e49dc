/-
  The reference's natural numbers, in digits of nine decimal places: what its printed functions compute. The reference's natural numbers: sums, differences, products, quotients, small ones. The reference divides. The reference's rational numbers as rational numbers. The reference's normal list is the same. What the reference tells of a list: its normal list, its first error, its length. The reference's whole number of a rational number. What a normal list shows, and how long it is. The reference's first error and length; lists compared. Two lists of edits with their errors, compared. EditFaster: a list that is so many times as fast is as the reference says. EditClocks: a list by other clocks is as the reference says. What a list by other clocks and a faster list show. Two lists that show the same are seen to. What is left of a list between two ticks, as a plain value, and that the code tells it. Lists put behind one another: slices.Grow and Concat, and what stands on them. The reference's cut list is the same. The reference's lists put behind one another: Join and Delay. slices.Repeat, and edit.Repeat on it.
-/
import Derived.Test.YtpbhepdgamoiaaaQREditJoinsa
import Derived.Test.YtpbhepdgamoiaaaQREditJoinsf
import Derived.Test.YtpbhepdgamoiaaaQREditJoinsc
import Derived.Outline
import Derived.Laws.IdiomCopy
import Derived.Laws.MathBits
import Derived.IntWalk
namespace Go.Proofs.Ytpbhepdgamoiaaa.Pa
open Go.RowKit Go.Proofs.Ytpbhepdgamoiaaa.P Go.Proofs.Ytpbhepdgamoiaaa.E Go.Proofs.YtpbhepdgamoiaaaW.PrintWords Go.Proofs.YtpbhepdgamoiaaaW.PrintLast Go.Proofs.Ytpbhepdgamoiaaa.Ml Go.Proofs.Ytpbhepdgamoiaaa.Mn
set_option linter.unusedVariables false
set_option linter.unusedSimpArgs false
abbrev Bd : Int := 1000000000
abbrev Nn (l : List Int) : Prop := Cn 1000000000 l
theorem top_cons {x : Int} {l : List Int} (h : Top l) (hx : l = [] → x ≠ 0) : Top (x :: l) := by
 intro hne
 cases l with
 | nil => simpa using hx rfl
 | cons y t =>
  rw [List.getLast_cons (by simp)]
  exact h (by simp)
theorem digit_f (l : List Int) (i : Nat) : dioramaref02_digit.f l (i : Int) = some (l.getD i 0) := by
 unfold dioramaref02_digit.f
 by_cases h : i < l.length
 ·rw [if_pos (by omega), if_pos (by omega), rd_nat]
 ·rw [if_neg (by omega), getD_ge (by omega)]
theorem tmodB {x : Int} (h : 0 ≤ x) : Int.tmod x 1000000000 = x % 1000000000 := Int.tmod_eq_emod_of_nonneg h
theorem tdivB {x : Int} (h : 0 ≤ x) : Int.tdiv x 1000000000 = x / 1000000000 := Int.tdiv_eq_ediv_of_nonneg h
theorem of_l (m : Nat) : ∀ (x : Int) (acc : List Int), 0 ≤ x → x < pw 1000000000 m → x ≤ 9223372036854775807 → acc.length + m ≤ 1000 → ∃ r, Ev (fun k => dioramaref02_Of.l0 k x acc) (acc ++ r) ∧ Nn r ∧ dv 1000000000 r = x ∧ r.length ≤ m := by
 induction m with
 | zero =>
  intro x acc h0 h1 _ _
  have hx : x = 0 := by simp [pw] at h1; omega
  subst hx
  exact ⟨[], Ev.step (f := fun _ => some (acc ++ [])) (fun k => by simp [dioramaref02_Of.l0]) (Ev.now _), Cn.nil _, rfl, Nat.le_refl _⟩
 | succ m ih =>
  intro x acc h0 h1 h2 hl
  by_cases hx : x = 0
  ·subst hx
   exact ⟨[], Ev.step (f := fun _ => some (acc ++ [])) (fun k => by simp [dioramaref02_Of.l0]) (Ev.now _), Cn.nil _, rfl, Nat.zero_le _⟩
  ·have hd : x / 1000000000 < pw 1000000000 m := by
    rw [pw_succ] at h1
    omega
   obtain ⟨r, he, hc, hv, hr⟩ := ih (x / 1000000000) (acc ++ [x % 1000000000]) (by omega) hd (by omega) (by simp; omega)
   refine ⟨x % 1000000000 :: r, ?_, ⟨Dg.cons (by omega) (by omega) hc.dg, top_cons hc.top (fun h => ?_)⟩, ?_, by simp; omega⟩
   ·rw [List.append_assoc, List.singleton_append] at he
    refine Ev.step (fun k => ?_) he
    simp only [dioramaref02_Of.l0]
    rw [if_pos (by omega), if_pos (by omega), tdivB h0, tmodB h0, w64 (by omega) (by omega)]
   ·subst h
    simp only [dv] at hv
    omega
   ·simp only [dv] at hv ⊢
    rw [hv]
    omega
theorem of_f (x : Int) (h0 : 0 ≤ x) (h1 : x ≤ 9223372036854775807) : ∃ r, Ev (fun k => dioramaref02_Of.f k x) r ∧ Nn r ∧ dv 1000000000 r = x ∧ r.length ≤ 3 := by
 obtain ⟨r, he, h⟩ := of_l 3 x [] h0 (by simp [pw]; omega) h1 (by simp)
 exact ⟨r, he, h⟩
theorem trimmed_l (l : List Int) (hd : Dg 1000000000 l) (hl : l.length ≤ 1000000) : ∀ n : Nat, n ≤ l.length → dv 1000000000 (l.take n) = dv 1000000000 l → ∃ r, Ev (fun k => dioramaref02_trimmed.l0 k l (n : Int)) r ∧ Nn r ∧ dv 1000000000 r = dv 1000000000 l ∧ r.length ≤ n := by
 intro n
 induction n with
 | zero =>
  intro _ hv
  refine ⟨[], Ev.step (f := fun _ => some []) (fun k => ?_) (Ev.now _), Cn.nil _, by rw [← hv]; rfl, Nat.le_refl _⟩
  simp [dioramaref02_trimmed.l0]
 | succ n ih =>
  intro hn hv
  have hw : wrap64 (((n + 1 : Nat) : Int) - 1) = (n : Int) := by rw [w64 (by omega) (by omega)]; omega
  by_cases hz : l.getD n 0 = 0
  ·obtain ⟨r, he, hc, hr, hlr⟩ := ih (by omega) (by rw [← hv] ; rw [dv_take_succ', hz]; omega)
   refine ⟨r, Ev.step (fun k => ?_) he, hc, hr, by omega⟩
   simp only [dioramaref02_trimmed.l0, hw, rd_nat]
   rw [if_pos (by omega), if_pos (by omega), if_pos (by omega), if_pos hz]
  ·refine ⟨l.take (n + 1), Ev.step (f := fun _ => some (l.take (n + 1))) (fun k => ?_) (Ev.now _), ⟨hd.take _, top_of_getD ?_⟩, hv, by simp; omega⟩
   ·simp only [dioramaref02_trimmed.l0, hw, rd_nat]
    rw [if_pos (by omega), if_pos (by omega), if_pos (by omega), if_neg hz, if_pos (by omega), if_pos (by omega), Int.toNat_natCast]
   ·rw [List.length_take, Nat.min_eq_left (by omega)]
    simp only [Nat.add_sub_cancel]
    rw [List.getD_eq_getElem?_getD, List.getElem?_take_of_lt (by omega), ← List.getD_eq_getElem?_getD]
    exact hz
theorem trimmed_f (l : List Int) (hd : Dg 1000000000 l) (hl : l.length ≤ 1000000) : ∃ r, Ev (fun k => dioramaref02_trimmed.f k l) r ∧ Nn r ∧ dv 1000000000 r = dv 1000000000 l ∧ r.length ≤ l.length :=
 trimmed_l l hd hl l.length (Nat.le_refl _) (by rw [List.take_length])
theorem cmp1 {x y : Int} (h : x < y) : Nd.cmpI x y = -1 := by unfold Nd.cmpI; rw [if_pos h]
theorem cmp2 {x y : Int} (h : y < x) : Nd.cmpI x y = 1 := by unfold Nd.cmpI; rw [if_neg (by omega), if_pos h]
theorem cmp0 {x y : Int} (h : x = y) : Nd.cmpI x y = 0 := by unfold Nd.cmpI; rw [if_neg (by omega), if_neg (by omega)]
theorem compare_l (a b : List Int) (ha : Dg 1000000000 a) (hb : Dg 1000000000 b) (hl : a.length = b.length) (hn : a.length ≤ 1000000) : ∀ i : Nat, i ≤ a.length → dv 1000000000 (a.drop i) = dv 1000000000 (b.drop i) →
  Ev (fun k => dioramaref02_Compare.l0 k a b ((i : Int) - 1)) (Nd.cmpI (dv 1000000000 a) (dv 1000000000 b)) := by
 intro i
 induction i with
 | zero =>
  intro _ h
  refine Ev.step (f := fun _ => some 0) (fun k => ?_) (by rw [cmp0 (by simpa using h)]; exact Ev.now _)
  simp [dioramaref02_Compare.l0]
 | succ i ih =>
  intro hi h
  have e : (((i + 1 : Nat) : Int) - 1) = (i : Int) := by omega
  have hw : wrap64 ((i : Int) - 1) = (i : Int) - 1 := w64 (by omega) (by omega)
  rw [e]
  rcases Int.lt_trichotomy (a.getD i 0) (b.getD i 0) with h1 | h1 | h1
  ·rw [cmp1 (dv_less (by decide) ha hb hl i (by omega) h h1)]
   refine Ev.step (f := fun _ => some (-1)) (fun k => ?_) (Ev.now _)
   simp only [dioramaref02_Compare.l0, rd_nat]
   rw [if_pos (by omega), if_pos (by omega), if_pos (by omega), if_pos (by omega), if_pos h1]
  ·refine Ev.step (fun k => ?_) (ih (by omega) (by rw [dv_drop _ a i (by omega), dv_drop _ b i (by omega), h1, h]))
   simp only [dioramaref02_Compare.l0, rd_nat, hw]
   rw [if_pos (by omega), if_pos (by omega), if_pos (by omega), if_pos (by omega), if_neg (by omega), if_neg (by omega)]
  ·rw [cmp2 (dv_less (by decide) hb ha hl.symm i (by omega) h.symm h1)]
   refine Ev.step (f := fun _ => some 1) (fun k => ?_) (Ev.now _)
   simp only [dioramaref02_Compare.l0, rd_nat]
   rw [if_pos (by omega), if_pos (by omega), if_pos (by omega), if_pos (by omega), if_neg (by omega), if_pos h1]
theorem compare_f (a b : List Int) (ha : Nn a) (hb : Nn b) (hn : a.length ≤ 1000000) (hm : b.length ≤ 1000000) : Ev (fun k => dioramaref02_Compare.f k a b) (Nd.cmpI (dv 1000000000 a) (dv 1000000000 b)) := by
 by_cases hl : a.length = b.length
 ·have h := compare_l a b ha.dg hb.dg hl hn a.length (Nat.le_refl _) (by rw [List.drop_of_length_le (Nat.le_refl _), List.drop_of_length_le (by omega)])
  refine Ev.congr (fun k => ?_) h
  simp only [dioramaref02_Compare.f]
  rw [if_pos (by omega), w64 (by omega) (by omega)]
 ·by_cases h1 : a.length < b.length
  ·rw [cmp1 (dv_len (by decide) ha.dg hb h1)]
   refine Ev.congr (f := fun _ => some (-1)) (fun k => ?_) (Ev.now _)
   simp only [dioramaref02_Compare.f]
   rw [if_neg (by omega), if_pos (by omega)]
  ·rw [cmp2 (dv_len (by decide) hb.dg ha (by omega))]
   refine Ev.congr (f := fun _ => some 1) (fun k => ?_) (Ev.now _)
   simp only [dioramaref02_Compare.f]
   rw [if_neg (by omega), if_neg (by omega)]
end Go.Proofs.Ytpbhepdgamoiaaa.Pa
namespace Go.Proofs.Ytpbhepdgamoiaaa.Pb
open Go.RowKit Go.Proofs.Ytpbhepdgamoiaaa.P Go.Proofs.Ytpbhepdgamoiaaa.E Go.Proofs.YtpbhepdgamoiaaaW.PrintWords Go.Proofs.YtpbhepdgamoiaaaW.PrintLast Go.Proofs.Ytpbhepdgamoiaaa.Ml Go.Proofs.Ytpbhepdgamoiaaa.Mn Go.Proofs.Ytpbhepdgamoiaaa.Pa
set_option linter.unusedVariables false
set_option linter.unusedSimpArgs false
theorem nv_take_all {l : List Int} {n : Nat} (h : l.length ≤ n) : dv 1000000000 (l.take n) = dv 1000000000 l := by rw [List.take_of_length_le h]
theorem dg_snoc {l : List Int} {x : Int} (h : Dg 1000000000 l) (h0 : 0 ≤ x) (h1 : x < 1000000000) : Dg 1000000000 (l ++ [x]) := h.append (Dg.cons h0 h1 (Dg.nil _))
theorem w1 {i : Nat} (h : i ≤ 10000000) : wrap64 ((i : Int) + 1) = ((i + 1 : Nat) : Int) := by rw [w64 (by omega) (by omega)]; omega
theorem minus_l (a b : List Int) (ha : Dg 1000000000 a) (hb : Dg 1000000000 b) (hn : a.length ≤ 1000000) (hlb : b.length ≤ a.length) (hle : dv 1000000000 b ≤ dv 1000000000 a) :
  ∀ (d i : Nat) (out : List Int) (c : Int), i + d = a.length → out.length = i → Dg 1000000000 out → 0 ≤ c → c ≤ 1 → dv 1000000000 out = dv 1000000000 (a.take i) - dv 1000000000 (b.take i) + c * pw 1000000000 i →
  ∃ r, Ev (fun k => dioramaref02_Minus.l0 k a b out c (i : Int)) r ∧ Nn r ∧ dv 1000000000 r = dv 1000000000 a - dv 1000000000 b ∧ r.length ≤ a.length := by
 intro d
 induction d with
 | zero =>
  intro i out c hi hl hd h0 h1 hv
  obtain ⟨r, he, hc, hr, hlr⟩ := trimmed_f out hd (by omega)
  have hlt := dv_lt (by decide) hd
  rw [hl] at hlt
  rw [nv_take_all (by omega), nv_take_all (by omega)] at hv
  have c0 : c = 0 := by
   rcases (show c = 0 ∨ c = 1 by omega) with h | h
   ·exact h
   ·rw [h] at hv
    omega
  refine ⟨r, Ev.step (f := fun k => (dioramaref02_trimmed.f k out).bind fun t => some t) (fun k => ?_) (Ev.bind he (Ev.now _)), hc, by rw [hr, hv, c0]; omega, by omega⟩
  simp only [dioramaref02_Minus.l0]
  rw [if_neg (by omega)]
 | succ d ih =>
  intro i out c hi hl hd h0 h1 hv
  have hx := ha.getD (by decide) i
  have hy := hb.getD (by decide) i
  have e1 := dv_take_succ' 1000000000 a i
  have e2 := dv_take_succ' 1000000000 b i
  have e3 := pw_succ 1000000000 i
  generalize hxv : a.getD i 0 = x at *
  generalize hyv : b.getD i 0 = y at *
  have hw : wrap64 (wrap64 (x - y) - c) = x - y - c := by rw [w64 (x := x - y) (by omega) (by omega), w64 (by omega) (by omega)]
  have hw2 : wrap64 (x - y - c + 1000000000) = x - y - c + 1000000000 := w64 (by omega) (by omega)
  by_cases hneg : x - y - c < 0
  ·obtain ⟨r, he, h⟩ := ih (i + 1) (out ++ [x - y - c + 1000000000]) 1 (by omega) (by simp [hl]) (dg_snoc hd (by omega) (by omega)) (by decide) (by decide) (by
    rw [dv_snoc, hl, hv, e1, e2, e3]
    grind)
   refine ⟨r, Ev.step (fun k => ?_) he, h⟩
   simp only [dioramaref02_Minus.l0]
   rw [if_pos (by omega), digit_f, digit_f, hxv, hyv]
   simp only [Option.bind_some, hw, hw2]
   rw [if_pos hneg, if_pos (by omega), w1 (by omega)]
  ·obtain ⟨r, he, h⟩ := ih (i + 1) (out ++ [x - y - c]) 0 (by omega) (by simp [hl]) (dg_snoc hd (by omega) (by omega)) (by decide) (by decide) (by
    rw [dv_snoc, hl, hv, e1, e2]
    grind)
   refine ⟨r, Ev.step (fun k => ?_) he, h⟩
   simp only [dioramaref02_Minus.l0]
   rw [if_pos (by omega), digit_f, digit_f, hxv, hyv]
   simp only [Option.bind_some, hw, hw2]
   rw [if_neg hneg, if_pos (by omega), w1 (by omega)]
theorem len_le {a b : List Int} (ha : Nn a) (hb : Nn b) (h : dv 1000000000 b ≤ dv 1000000000 a) : b.length ≤ a.length := by
 refine Nat.le_of_not_lt fun hl => ?_
 have := dv_len (by decide) ha.dg hb hl
 omega
theorem minus_f (a b : List Int) (ha : Nn a) (hb : Nn b) (hn : a.length ≤ 1000000) (hle : dv 1000000000 b ≤ dv 1000000000 a) : ∃ r, Ev (fun k => dioramaref02_Minus.f k a b) r ∧ Nn r ∧ dv 1000000000 r = dv 1000000000 a - dv 1000000000 b ∧ r.length ≤ a.length :=
 minus_l a b ha.dg hb.dg hn (len_le ha hb hle) hle a.length 0 [] 0 (by omega) rfl (Dg.nil _) (by decide) (by decide) (by simp [dv])
theorem plus_l (a b : List Int) (ha : Nn a) (hb : Nn b) (hn : a.length ≤ 1000000) (hm : b.length ≤ 1000000) :
  ∀ (d i : Nat) (out : List Int) (c : Int), i + d = max a.length b.length + 1 → out.length = i → Dg 1000000000 out → 0 ≤ c → c ≤ 1 → (i ≤ max a.length b.length ∨ c = 0) → (i < a.length ∨ i < b.length ∨ 0 < c ∨ Top out) → dv 1000000000 out = dv 1000000000 (a.take i) + dv 1000000000 (b.take i) - c * pw 1000000000 i →
  ∃ r, Ev (fun k => dioramaref02_Plus.l0 k a b out c (i : Int)) r ∧ Nn r ∧ dv 1000000000 r = dv 1000000000 a + dv 1000000000 b ∧ r.length ≤ max a.length b.length + 1 := by
 intro d
 induction d with
 | zero =>
  intro i out c hi hl hd h0 h1 hic ht hv
  have c0 : c = 0 := by omega
  subst c0
  rw [nv_take_all (by omega), nv_take_all (by omega)] at hv
  refine ⟨out, Ev.step (f := fun k => dioramaref02_Plus.j1 k a b out 0 (i : Int) (decide ((0 : Int) > 0))) (fun k => ?_) (Ev.step (f := fun _ => some out) (fun k => ?_) (Ev.now _)), ⟨hd, ?_⟩, by rw [hv]; omega, by omega⟩
  ·simp only [dioramaref02_Plus.l0]
   rw [if_neg (by omega), if_neg (by omega)]
  ·simp [dioramaref02_Plus.j1]
  ·rcases ht with h | h | h | h
   ·omega
   ·omega
   ·omega
   ·exact h
 | succ d ih =>
  intro i out c hi hl hd h0 h1 hic ht hv
  by_cases hgo : i < a.length ∨ i < b.length ∨ 0 < c
  ·have hx := ha.dg.getD (by decide) i
   have hy := hb.dg.getD (by decide) i
   have e1 := dv_take_succ' 1000000000 a i
   have e2 := dv_take_succ' 1000000000 b i
   have e3 := pw_succ 1000000000 i
   have zx : a.length ≤ i → a.getD i 0 = 0 := fun h => getD_ge h
   have zy : b.length ≤ i → b.getD i 0 = 0 := fun h => getD_ge h
   have tx : i + 1 = a.length → a.getD i 0 ≠ 0 := fun h => by have := top_getD ha.top (by omega); rwa [← h, Nat.add_sub_cancel] at this
   have ty : i + 1 = b.length → b.getD i 0 ≠ 0 := fun h => by have := top_getD hb.top (by omega); rwa [← h, Nat.add_sub_cancel] at this
   generalize hxv : a.getD i 0 = x at *
   generalize hyv : b.getD i 0 = y at *
   have hw : wrap64 (wrap64 (x + y) + c) = x + y + c := by rw [w64 (x := x + y) (by omega) (by omega), w64 (by omega) (by omega)]
   have hw2 : wrap64 ((x + y + c) / 1000000000) = (x + y + c) / 1000000000 := w64 (by omega) (by omega)
   obtain ⟨r, he, h⟩ := ih (i + 1) (out ++ [(x + y + c) % 1000000000]) ((x + y + c) / 1000000000) (by omega) (by simp [hl]) (dg_snoc hd (by omega) (by omega)) (by omega) (by omega)
    (by
     by_cases hmx : i < max a.length b.length
     ·left; omega
     ·right
      rw [zx (by omega), zy (by omega)]
      omega)
    (by
     by_cases g1 : i + 1 < a.length
     ·exact .inl g1
     ·by_cases g2 : i + 1 < b.length
      ·exact .inr (.inl g2)
      ·by_cases g3 : 0 < (x + y + c) / 1000000000
       ·exact .inr (.inr (.inl g3))
       ·refine .inr (.inr (.inr (top_of_getD ?_)))
        have hne : (x + y + c) % 1000000000 ≠ 0 := by
         rcases hgo with g | g | g
         ·have := tx (by omega); omega
         ·have := ty (by omega); omega
         ·omega
        simp only [List.length_append, List.length_singleton, Nat.add_sub_cancel]
        rw [List.getD_eq_getElem?_getD, List.getElem?_append_right (Nat.le_refl _)]
        simpa using hne)
    (by
     rw [dv_snoc, hl, hv, e1, e2, e3]
     have hdm := Int.mul_ediv_add_emod (x + y + c) 1000000000
     generalize (x + y + c) / 1000000000 = Q at *
     generalize (x + y + c) % 1000000000 = R at *
     have : R = x + y + c - 1000000000 * Q := by omega
     subst this
     grind)
   refine ⟨r, ?_, h⟩
   have hj : Ev (fun k => dioramaref02_Plus.j1 k a b out c (i : Int) true) r := by
    refine Ev.step (fun k => ?_) he
    simp only [dioramaref02_Plus.j1, if_true]
    rw [digit_f, digit_f, hxv, hyv]
    simp only [Option.bind_some, hw]
    rw [if_pos (by omega), tmodB (by omega), tdivB (by omega), hw2, w1 (by omega)]
   refine Ev.step (fun k => ?_) hj
   simp only [dioramaref02_Plus.l0]
   by_cases g1 : i < a.length
   ·rw [if_pos (by omega)]
   ·rw [if_neg (by omega)]
    by_cases g2 : i < b.length
    ·rw [if_pos (by omega)]
    ·rw [if_neg (by omega), decide_eq_true (show c > 0 by omega)]
  ·have c0 : c = 0 := by omega
   subst c0
   rw [nv_take_all (by omega), nv_take_all (by omega)] at hv
   refine ⟨out, Ev.step (f := fun k => dioramaref02_Plus.j1 k a b out 0 (i : Int) (decide ((0 : Int) > 0))) (fun k => ?_) (Ev.step (f := fun _ => some out) (fun k => ?_) (Ev.now _)), ⟨hd, ?_⟩, by rw [hv]; omega, by omega⟩
   ·simp only [dioramaref02_Plus.l0]
    rw [if_neg (by omega), if_neg (by omega)]
   ·simp [dioramaref02_Plus.j1]
   ·rcases ht with h | h | h | h
    ·omega
    ·omega
    ·omega
    ·exact h
theorem plus_f (a b : List Int) (ha : Nn a) (hb : Nn b) (hn : a.length ≤ 1000000) (hm : b.length ≤ 1000000) : ∃ r, Ev (fun k => dioramaref02_Plus.f k a b) r ∧ Nn r ∧ dv 1000000000 r = dv 1000000000 a + dv 1000000000 b ∧ r.length ≤ max a.length b.length + 1 :=
 plus_l a b ha hb hn hm (max a.length b.length + 1) 0 [] 0 (by omega) rfl (Dg.nil _) (by decide) (by decide) (.inr rfl) (.inr (.inr (.inr (fun h => absurd rfl h)))) (by simp [dv])
theorem mulB {c x y o : Int} (hc0 : 0 ≤ c) (hc1 : c < 1000000000) (hx0 : 0 ≤ x) (hx1 : x < 1000000000) (hy0 : 0 ≤ y) (hy1 : y < 1000000000) (ho0 : 0 ≤ o) (ho1 : o < 1000000000) :
  wrap64 (wrap64 (o + wrap64 (x * y)) + c) = o + x * y + c ∧ 0 ≤ o + x * y + c ∧ wrap64 (Int.tdiv (o + x * y + c) 1000000000) = (o + x * y + c) / 1000000000 ∧ (o + x * y + c) / 1000000000 < 1000000000 := by
 obtain ⟨h1, h2⟩ := mul_lt_sq hx0 hx1 hy0 hy1
 have h2' : x * y ≤ 999999998000000001 := h2
 rw [w64 (x := x * y) (by omega) (by omega), w64 (x := o + x * y) (by omega) (by omega), w64 (x := o + x * y + c) (by omega) (by omega), tdivB (by omega), w64 (by omega) (by omega)]
 refine ⟨rfl, by omega, rfl, by omega⟩
set_option maxHeartbeats 1000000 in
theorem times_l1 (a b : List Int) (i : Nat) (x : Int) (hx : a.getD i 0 = x) (hi : i < a.length) (hb : Dg 1000000000 b) (hx0 : 0 ≤ x) (hx1 : x < 1000000000) (hn : a.length + b.length ≤ 1000000) :
  ∀ (d j : Nat) (out : List Int) (c : Int), j + d = b.length → Dg 1000000000 out → out.length = a.length + b.length → 0 ≤ c → c < 1000000000 → (∀ m, i + b.length ≤ m → out.getD m 0 = 0) →
  ∃ out', (∀ r, Ev (fun k => dioramaref02_Times.l0 k a b out' ((i + 1 : Nat) : Int)) r → Ev (fun k => dioramaref02_Times.l1 k a b out (i : Int) c (j : Int)) r) ∧ out'.length = a.length + b.length ∧ Dg 1000000000 out' ∧
   dv 1000000000 out' = dv 1000000000 out + c * pw 1000000000 (i + j) + x * dv 1000000000 (b.drop j) * pw 1000000000 (i + j) ∧ ∀ m, i + 1 + b.length ≤ m → out'.getD m 0 = 0 := by
 intro d
 induction d with
 | zero =>
  intro j out c hj hd hl h0 h1 hz
  obtain rfl : j = b.length := by omega
  have hend : ∀ (out : List Int) (j : Nat) r, b.length ≤ j → Ev (fun k => dioramaref02_Times.l0 k a b out ((i + 1 : Nat) : Int)) r → Ev (fun k => dioramaref02_Times.l1 k a b out (i : Int) 0 (j : Int)) r := by
   intro out j r hj he
   refine Ev.step (fun k => ?_) he
   simp only [dioramaref02_Times.l1]
   rw [if_neg (by omega), if_neg (by omega), w1 (by omega)]
  rw [List.drop_of_length_le (Nat.le_refl _)]
  by_cases hc : c = 0
  ·subst hc
   exact ⟨out, fun r he => hend out _ r (Nat.le_refl _) he, hl, hd, by simp [dv], fun m hm => hz m (by omega)⟩
  ·refine ⟨out.set (i + b.length) c, fun r he => ?_, by simp [hl], hd.set _ h0 h1, ?_, fun m hm => by rw [getD_set (by omega)]; exact hz m (by omega)⟩
   ·have h2 := hend (out.set (i + b.length) c) (b.length + 1) r (by omega) he
    refine Ev.step (fun k => ?_) h2
    have hw : wrap64 ((i : Int) + (b.length : Int)) = ((i + b.length : Nat) : Int) := by rw [w64 (by omega) (by omega)]; omega
    obtain ⟨g1, g2, g3, g4⟩ := mulB (o := 0) (y := 0) h0 h1 hx0 hx1 (by decide) (by decide) (by decide) (by decide)
    have e0 : (0 : Int) + x * 0 + c = c := by omega
    rw [e0] at g1 g3
    simp only [dioramaref02_Times.l1, hw, rd_nat, hx, Int.toNat_natCast]
    rw [if_neg (by omega), if_pos (by omega), if_pos (by omega), if_pos (by omega), if_pos (by omega), if_pos (by omega), digit_f, getD_ge (Nat.le_refl _), hz _ (Nat.le_refl _)]
    simp only [Option.bind_some, g1, g3]
    rw [tmodB h0, Int.emod_eq_of_lt h0 h1, Int.ediv_eq_zero_of_lt h0 h1, w1 (by omega)]
   ·rw [dv_set _ _ _ _ (by omega), hz _ (Nat.le_refl _)]
    simp [dv]
 | succ d ih =>
  intro j out c hj hd hl h0 h1 hz
  have hy := hb.getD (by decide) j
  have ho := hd.getD (by decide) (i + j)
  have c1 : (j : Int) < (b.length : Int) := by omega
  have c2 : 0 ≤ ((i + j : Nat) : Int) := by omega
  have c3 : ((i + j : Nat) : Int) < (out.length : Int) := by omega
  have c4 : 0 ≤ (i : Int) := by omega
  have c5 : (i : Int) < (a.length : Int) := by omega
  have c6 : i + j < out.length := by omega
  have c7 : j < b.length := by omega
  have hw : wrap64 ((i : Int) + (j : Int)) = ((i + j : Nat) : Int) := by rw [w64 (by omega) (by omega)]; omega
  have hw1 := w1 (i := j) (by omega)
  have HW := Aside0.mk (And.intro hw hw1)
  clear hw hw1
  generalize hyv : b.getD j 0 = y at *
  generalize hov : out.getD (i + j) 0 = o at *
  obtain ⟨g1, g2, g3, g4⟩ := mulB h0 h1 hx0 hx1 hy.1 hy.2 ho.1 ho.2
  have gm := Int.mul_ediv_add_emod (o + x * y + c) 1000000000
  have gr0 := Int.emod_nonneg (o + x * y + c) (show (1000000000 : Int) ≠ 0 by decide)
  have gr1 := Int.emod_lt_of_pos (o + x * y + c) (show (0 : Int) < 1000000000 by decide)
  have gq0 : 0 ≤ (o + x * y + c) / 1000000000 := Int.ediv_nonneg g2 (by decide)
  have gt := tmodB g2
  generalize (o + x * y + c) / 1000000000 = q at *
  generalize (o + x * y + c) % 1000000000 = r' at *
  have hs : r' + 1000000000 * q = c + (x * y + o) := by clear g1 g3 gt; omega
  have HG := Aside0.mk (And.intro g1 (And.intro g3 gt))
  clear g1 g3 gt gm
  obtain ⟨out', k1, k2, k3, k4, k5⟩ := ih (j + 1) (out.set (i + j) r') q (by omega) (hd.set _ gr0 gr1) (by simp [hl]) gq0 g4 (fun m hm => by rw [getD_set (by omega)]; exact hz m hm)
  refine ⟨out', fun r he => ?_, k2, k3, ?_, k5⟩
  ·refine Ev.step (fun k => ?_) (k1 r he)
   simp only [dioramaref02_Times.l1, HW.out.1, rd_nat, hx, Int.toNat_natCast]
   rw [if_pos c1, if_pos c2, if_pos c3, if_pos c4, if_pos c5, digit_f, hyv, hov]
   simp only [Option.bind_some, HG.out.1, HG.out.2.1, HG.out.2.2, HW.out.2]
  ·rw [k4, dv_set _ _ _ _ c6, hov, dv_drop 1000000000 b j c7, hyv, ← Nat.add_assoc, pw_succ]
   exact (mul_step hs).symm
theorem times_l0 (a b : List Int) (ha : Dg 1000000000 a) (hb : Dg 1000000000 b) (hn : a.length + b.length ≤ 1000000) :
  ∀ (d i : Nat) (out : List Int), i + d = a.length → Dg 1000000000 out → out.length = a.length + b.length → dv 1000000000 out = dv 1000000000 (a.take i) * dv 1000000000 b → (∀ m, i + b.length ≤ m → out.getD m 0 = 0) →
  ∃ r, Ev (fun k => dioramaref02_Times.l0 k a b out (i : Int)) r ∧ Nn r ∧ dv 1000000000 r = dv 1000000000 a * dv 1000000000 b ∧ r.length ≤ a.length + b.length := by
 intro d
 induction d with
 | zero =>
  intro i out hi hd hl hv hz
  obtain ⟨r, he, hc, hr, hlr⟩ := trimmed_f out hd (by omega)
  refine ⟨r, Ev.step (f := fun k => (dioramaref02_trimmed.f k out).bind fun t => some t) (fun k => ?_) (Ev.bind he (Ev.now _)), hc, by rw [hr, hv, nv_take_all (by omega)], by omega⟩
  simp only [dioramaref02_Times.l0]
  rw [if_neg (by omega)]
 | succ d ih =>
  intro i out hi hd hl hv hz
  have hx := ha.getD (by decide) i
  obtain ⟨out', k1, k2, k3, k4, k5⟩ := times_l1 a b i (a.getD i 0) rfl (by omega) hb hx.1 hx.2 hn b.length 0 out 0 (by omega) hd hl (by decide) (by decide) hz
  obtain ⟨r, he, h⟩ := ih (i + 1) out' (by omega) k3 k2 (by
   rw [k4, hv, dv_take_succ' _ a i]
   simp only [List.drop_zero, Nat.add_zero]
   grind) (fun m hm => k5 m (by omega))
  refine ⟨r, Ev.step (fun k => ?_) (k1 r he), h⟩
  simp only [dioramaref02_Times.l0]
  rw [if_pos (by omega)]
  rfl
theorem times_f (a b : List Int) (ha : Nn a) (hb : Nn b) (hn : a.length + b.length ≤ 1000000) : ∃ r, Ev (fun k => dioramaref02_Times.f k a b) r ∧ Nn r ∧ dv 1000000000 r = dv 1000000000 a * dv 1000000000 b ∧ r.length ≤ a.length + b.length := by
 have e1 : wrap64 ((a.length : Int) + (b.length : Int)) = ((a.length + b.length : Nat) : Int) := by rw [w64 (by omega) (by omega)]; omega
 obtain ⟨r, he, h⟩ := times_l0 a b ha.dg hb.dg hn a.length 0 (List.replicate (a.length + b.length) 0) (by omega) (Dg.replicate (by decide) _) (by simp) (by rw [dv_replicate]; simp [dv]) (fun m _ => by
  rw [List.getD_eq_getElem?_getD, List.getElem?_replicate]
  split <;> rfl)
 refine ⟨r, Ev.congr (fun k => ?_) he, h⟩
 simp only [dioramaref02_Times.f, e1, Int.toNat_natCast]
 rw [if_pos (by omega), if_pos (by omega)]
 rfl
theorem drop_le (l : List Int) (hd : Dg 1000000000 l) (i : Nat) : dv 1000000000 (l.drop i) ≤ dv 1000000000 l ∧ 0 ≤ dv 1000000000 (l.drop i) := by
 have h0 := dv_nonneg (by decide) (hd.drop i)
 refine ⟨?_, h0⟩
 by_cases hi : i ≤ l.length
 ·have h1 := dv_split 1000000000 l i hi
  have h2 := dv_nonneg (by decide) (hd.take i)
  have h3 : 0 < pw 1000000000 i := pow_pos (by decide) i
  have h4 : 1 * dv 1000000000 (l.drop i) ≤ pw 1000000000 i * dv 1000000000 (l.drop i) := Int.mul_le_mul_of_nonneg_right (by omega) h0
  omega
 ·rw [List.drop_of_length_le (by omega)]
  exact dv_nonneg (by decide) hd
theorem small_l (l : List Int) (hd : Dg 1000000000 l) (hn : l.length ≤ 1000000) (hs : dv 1000000000 l ≤ 9223372036854775807) : ∀ i : Nat, i ≤ l.length → Ev (fun k => dioramaref02_Small.l0 k l (dv 1000000000 (l.drop i)) ((i : Int) - 1)) (dv 1000000000 l, true) := by
 intro i
 induction i with
 | zero =>
  intro _
  refine Ev.step (f := fun _ => some (dv 1000000000 l, true)) (fun k => ?_) (Ev.now _)
  simp [dioramaref02_Small.l0]
 | succ i ih =>
  intro hi
  have e : (((i + 1 : Nat) : Int) - 1) = (i : Int) := by omega
  have h1 := dv_drop 1000000000 l i (by omega)
  have h2 := drop_le l hd i
  have h3 := drop_le l hd (i + 1)
  have hx := hd.getD (by decide) i
  rw [e]
  refine Ev.step (fun k => ?_) (ih (by omega))
  simp only [dioramaref02_Small.l0, rd_nat]
  rw [if_pos (by omega), if_pos (by omega), if_pos (by omega), w64 (x := _ * 1000000000) (by omega) (by omega), w64 (x := _ + _) (by omega) (by omega), w64 (x := (i : Int) - 1) (by omega) (by omega), h1]
  congr 1
  omega
theorem small_f (l : List Int) (most : Int) (hl : Nn l) (hn : l.length ≤ 1000000) (h0 : 0 ≤ most) (h1 : most ≤ 9223372036854775807) : Ev (fun k => dioramaref02_Small.f k l most) (if most < dv 1000000000 l then (0, false) else (dv 1000000000 l, true)) := by
 obtain ⟨r, he, hr, hv, hlr⟩ := of_f most h0 h1
 have hc := compare_f l r hl hr hn (by omega)
 rw [hv] at hc
 by_cases hb : most < dv 1000000000 l
 ·rw [if_pos hb]
  rw [cmp2 hb] at hc
  exact Ev.bind he (Ev.bind hc (Ev.congr (f := fun _ => some (0, false)) (fun k => by simp) (Ev.now _)))
 ·rw [if_neg hb]
  have hle : ¬ (Nd.cmpI (dv 1000000000 l) most > 0) := by
   unfold Nd.cmpI
   by_cases h2 : dv 1000000000 l < most
   ·rw [if_pos h2]; decide
   ·rw [if_neg h2, if_neg hb]; decide
  have h2 := small_l l hl.dg hn (by omega) l.length (Nat.le_refl _)
  rw [List.drop_of_length_le (Nat.le_refl _)] at h2
  refine Ev.bind he (Ev.bind hc (Ev.congr (fun k => ?_) h2))
  rw [if_neg hle, w64 (by omega) (by omega)]
  rfl
end Go.Proofs.Ytpbhepdgamoiaaa.Pb
namespace Go.Proofs.Ytpbhepdgamoiaaa.Pc
open Go.RowKit Go.Proofs.Ytpbhepdgamoiaaa.P Go.Proofs.Ytpbhepdgamoiaaa.E Go.Proofs.YtpbhepdgamoiaaaW.PrintWords Go.Proofs.YtpbhepdgamoiaaaW.PrintLast Go.Proofs.Ytpbhepdgamoiaaa.Ml Go.Proofs.Ytpbhepdgamoiaaa.Mn Go.Proofs.Ytpbhepdgamoiaaa.Pa Go.Proofs.Ytpbhepdgamoiaaa.Pb
set_option linter.unusedVariables false
set_option linter.unusedSimpArgs false
theorem drop_set' {l : List Int} {i : Nat} {v : Int} : (l.set i v).drop (i + 1) = l.drop (i + 1) := by
 rw [List.drop_set]
 simp
theorem over_l1 (a b q rest : List Int) (i : Nat) (hb : Nn b) (hr : Nn rest) (hi : i < q.length) (hq : q.length ≤ 1000000) (hlb : b.length ≤ 100000) (hlr : rest.length ≤ 200000) (hbp : 0 < dv 1000000000 b) :
  ∀ (m : Nat) (low high : Int), high - low ≤ m → 0 ≤ low → low ≤ high → high ≤ 999999999 → low * dv 1000000000 b ≤ dv 1000000000 rest → dv 1000000000 rest < (high + 1) * dv 1000000000 b →
  ∃ t rest', 0 ≤ t ∧ t < 1000000000 ∧ Nn rest' ∧ dv 1000000000 rest = t * dv 1000000000 b + dv 1000000000 rest' ∧ dv 1000000000 rest' < dv 1000000000 b ∧ (∀ r, Ev (fun k => dioramaref02_Over.l0 k a b (q.set i t) rest' ((i : Int) - 1)) r → Ev (fun k => dioramaref02_Over.l1 k a b q rest (i : Int) low high) r) := by
 intro m
 induction m with
 | zero =>
  intro low high hm h0 h1 h2 hlo hhi
  obtain rfl : low = high := by omega
  obtain ⟨o, eo, ho, vo, lo⟩ := of_f low h0 (by omega)
  obtain ⟨p, ep, hp, vp, lp⟩ := times_f b o hb ho (by omega)
  have e1 : dv 1000000000 p = low * dv 1000000000 b := by rw [vp, vo, Int.mul_comm]
  obtain ⟨s, es, hs, vs, ls⟩ := minus_f rest p hr hp (by omega) (by omega)
  have e2 : (low + 1) * dv 1000000000 b = low * dv 1000000000 b + dv 1000000000 b := by rw [Int.add_mul]; omega
  refine ⟨low, s, h0, by omega, hs, by omega, by omega, fun r he => ?_⟩
  refine Ev.step (f := fun k => (dioramaref02_Of.f k low).bind fun t197 => ((dioramaref02_Times.f k b t197).bind fun t200 => ((dioramaref02_Minus.f k rest t200).bind fun t203 => (dioramaref02_Over.l0 k a b (q.set i low) t203 ((i : Int) - 1))))) (fun k => ?_) (Ev.bind eo (Ev.bind ep (Ev.bind es he)))
  simp only [dioramaref02_Over.l1, Int.toNat_natCast]
  rw [if_neg (by omega), if_pos (by omega), if_pos (by omega), w64 (by omega) (by omega)]
 | succ m ih =>
  intro low high hm h0 h1 h2 hlo hhi
  by_cases hlt : low < high
  ·have hmid : wrap64 (Int.tdiv (wrap64 (wrap64 (low + high) + 1)) 2) = (low + high + 1) / 2 := by
    rw [w64 (x := low + high) (by omega) (by omega), w64 (x := low + high + 1) (by omega) (by omega), Int.tdiv_eq_ediv_of_nonneg (by omega), w64 (by omega) (by omega)]
   have hm1 : low < (low + high + 1) / 2 := by omega
   have hm2 : (low + high + 1) / 2 ≤ high := by omega
   generalize (low + high + 1) / 2 = mid at *
   obtain ⟨o, eo, ho, vo, lo⟩ := of_f mid (by omega) (by omega)
   obtain ⟨p, ep, hp, vp, lp⟩ := times_f b o hb ho (by omega)
   have e1 : dv 1000000000 p = mid * dv 1000000000 b := by rw [vp, vo, Int.mul_comm]
   have ec := compare_f p rest hp hr (by omega) (by omega)
   rw [e1] at ec
   by_cases hc : mid * dv 1000000000 b ≤ dv 1000000000 rest
   ·obtain ⟨t, rest', g1, g2, g3, g4, g5, g6⟩ := ih mid high (by omega) (by omega) hm2 h2 hc hhi
    have hle : Nd.cmpI (mid * dv 1000000000 b) (dv 1000000000 rest) ≤ 0 := by
     unfold Nd.cmpI
     by_cases h2 : mid * dv 1000000000 b < dv 1000000000 rest
     ·rw [if_pos h2]; decide
     ·rw [if_neg h2, if_neg (by omega)]; decide
    refine ⟨t, rest', g1, g2, g3, g4, g5, fun r he => ?_⟩
    refine Ev.step (f := fun k => (dioramaref02_Of.f k mid).bind fun t206 => ((dioramaref02_Times.f k b t206).bind fun t209 => ((dioramaref02_Compare.f k t209 rest).bind fun t212 => (if t212 ≤ 0 then (dioramaref02_Over.l1 k a b q rest (i : Int) mid high) else (dioramaref02_Over.l1 k a b q rest (i : Int) low (wrap64 (mid - 1))))))) (fun k => ?_) (Ev.bind eo (Ev.bind ep (Ev.bind ec (Ev.congr (fun k => ?_) (g6 r he)))))
    ·simp only [dioramaref02_Over.l1, hmid]
     rw [if_pos hlt]
    ·rw [if_pos hle]
   ·have hw : wrap64 (mid - 1) = mid - 1 := w64 (by omega) (by omega)
    obtain ⟨t, rest', g1, g2, g3, g4, g5, g6⟩ := ih low (mid - 1) (by omega) h0 (by omega) (by omega) hlo (by rw [Int.sub_add_cancel]; omega)
    have hle : ¬ Nd.cmpI (mid * dv 1000000000 b) (dv 1000000000 rest) ≤ 0 := by
     rw [cmp2 (by omega)]; decide
    refine ⟨t, rest', g1, g2, g3, g4, g5, fun r he => ?_⟩
    refine Ev.step (f := fun k => (dioramaref02_Of.f k mid).bind fun t206 => ((dioramaref02_Times.f k b t206).bind fun t209 => ((dioramaref02_Compare.f k t209 rest).bind fun t212 => (if t212 ≤ 0 then (dioramaref02_Over.l1 k a b q rest (i : Int) mid high) else (dioramaref02_Over.l1 k a b q rest (i : Int) low (wrap64 (mid - 1))))))) (fun k => ?_) (Ev.bind eo (Ev.bind ep (Ev.bind ec (Ev.congr (fun k => ?_) (g6 r he)))))
    ·simp only [dioramaref02_Over.l1, hmid]
     rw [if_pos hlt]
    ·rw [if_neg hle, hw]
  ·exact ih low high (by omega) h0 h1 h2 hlo hhi
theorem over_l0 (a b : List Int) (ha : Dg 1000000000 a) (hb : Nn b) (hla : a.length ≤ 100000) (hlb : b.length ≤ 100000) (hbp : 0 < dv 1000000000 b) :
  ∀ (i : Nat) (q rest : List Int), i ≤ a.length → q.length = a.length → Dg 1000000000 q → Nn rest → dv 1000000000 rest < dv 1000000000 b → dv 1000000000 (a.drop i) = dv 1000000000 (q.drop i) * dv 1000000000 b + dv 1000000000 rest →
  ∃ r1 r2, Ev (fun k => dioramaref02_Over.l0 k a b q rest ((i : Int) - 1)) (r1, r2) ∧ Nn r1 ∧ Nn r2 ∧ dv 1000000000 a = dv 1000000000 r1 * dv 1000000000 b + dv 1000000000 r2 ∧ dv 1000000000 r2 < dv 1000000000 b ∧ r1.length ≤ a.length ∧ r2.length ≤ b.length := by
 have hlen : ∀ {l : List Int}, Nn l → dv 1000000000 l < dv 1000000000 b → l.length ≤ b.length := by
  intro l hl h
  refine Nat.le_of_not_lt fun h2 => ?_
  have := dv_len (by decide) hb.dg hl h2
  omega
 intro i
 induction i with
 | zero =>
  intro q rest _ hq dq hr hlt hv
  obtain ⟨r, he, hc, hvr, hlr⟩ := trimmed_f q dq (by omega)
  rw [List.drop_zero, List.drop_zero] at hv
  refine ⟨r, rest, Ev.step (f := fun k => (dioramaref02_trimmed.f k q).bind fun t => some (t, rest)) (fun k => ?_) (Ev.bind he (Ev.now _)), hc, hr, by rw [hvr]; exact hv, hlt, by omega, hlen hr hlt⟩
  simp [dioramaref02_Over.l0]
 | succ i ih =>
  intro q rest hi hq dq hr hlt hv
  have e : (((i + 1 : Nat) : Int) - 1) = (i : Int) := by omega
  have hx := ha.getD (by decide) i
  have hlr := hlen hr hlt
  obtain ⟨u, eu, hu, vu, lu⟩ := trimmed_f (a.getD i 0 :: rest) (Dg.cons hx.1 hx.2 hr.dg) (by simp; omega)
  have vu2 : dv 1000000000 u = a.getD i 0 + 1000000000 * dv 1000000000 rest := vu
  have r0 := dv_nonneg (by decide) hr.dg
  simp only [List.length_cons] at lu
  obtain ⟨t, rest', g1, g2, g3, g4, g5, g6⟩ := over_l1 a b q u i hb hu (by omega) (by omega) hlb (by omega) hbp 999999999 0 999999999 (by decide) (by decide) (by decide) (by decide) (by have := dv_nonneg (by decide) hu.dg ; omega) (by
   have : (1000000000 : Int) * (dv 1000000000 rest + 1) ≤ 1000000000 * dv 1000000000 b := Int.mul_le_mul_of_nonneg_left (by omega) (by decide)
   rw [vu2]
   omega)
  obtain ⟨r1, r2, he, h⟩ := ih (q.set i t) rest' (by omega) (by simpa using hq) (dq.set _ g1 g2) g3 g5 (by
   rw [dv_drop _ a i (by omega), dv_drop _ (q.set i t) i (by simp; omega), drop_set', getD_set_self (by omega), hv]
   have := vu2
   rw [g4] at this
   grind)
  refine ⟨r1, r2, ?_, h⟩
  rw [e]
  refine Ev.step (f := fun k => (dioramaref02_trimmed.f k (a.getD i 0 :: rest)).bind fun t193 => (dioramaref02_Over.l1 k a b q t193 (i : Int) 0 999999999)) (fun k => ?_) (Ev.bind eu (g6 _ he))
  simp only [dioramaref02_Over.l0, rd_nat, Option.bind_some, List.singleton_append, List.length_singleton]
  rw [if_pos (by omega), if_pos (by omega), if_pos (by omega), if_pos (by omega)]
theorem over_f (a b : List Int) (ha : Nn a) (hb : Nn b) (hla : a.length ≤ 100000) (hlb : b.length ≤ 100000) (hbp : 0 < dv 1000000000 b) :
  ∃ r1 r2, Ev (fun k => dioramaref02_Over.f k a b) (r1, r2) ∧ Nn r1 ∧ Nn r2 ∧ dv 1000000000 a = dv 1000000000 r1 * dv 1000000000 b + dv 1000000000 r2 ∧ dv 1000000000 r2 < dv 1000000000 b ∧ r1.length ≤ a.length ∧ r2.length ≤ b.length := by
 obtain ⟨r1, r2, he, h⟩ := over_l0 a b ha.dg hb hla hlb hbp a.length (List.replicate a.length 0) [] (Nat.le_refl _) (by simp) (Dg.replicate (by decide) _) (Cn.nil _) hbp (by rw [List.drop_of_length_le (Nat.le_refl _), List.drop_of_length_le (by simp)]; simp [dv])
 refine ⟨r1, r2, Ev.congr (fun k => ?_) he, h⟩
 simp only [dioramaref02_Over.f, Int.toNat_natCast]
 rw [if_pos (by omega), if_pos (by omega), w64 (by omega) (by omega)]
end Go.Proofs.Ytpbhepdgamoiaaa.Pc
namespace Go.Proofs.Ytpbhepdgamoiaaa.Qr
open Go.RowKit Go Go.Proofs.YtpbhepdgamoiaaaW.PrintWords Go.Proofs.YtpbhepdgamoiaaaW.PrintLast Go.Proofs.YtpbhepdgamoiaaaW.PrintMore Go.Proofs.Ytpbhepdgamoiaaa.Ml Go.Proofs.Ytpbhepdgamoiaaa.Mn Go.Proofs.Ytpbhepdgamoiaaa.Nd Go.Proofs.Ytpbhepdgamoiaaa.Pa Go.Proofs.Ytpbhepdgamoiaaa.Pb Go.Proofs.Ytpbhepdgamoiaaa.Rf Go.Proofs.Ytpbhepdgamoiaaa.Er Go.Proofs.Ytpbhepdgamoiaaa.Ek Go.Proofs.Ytpbhepdgamoiaaa.E Go.Proofs.Ytpbhepdgamoiaaa.Pe Go.Proofs.Ytpbhepdgamoiaaa.Pf
set_option linter.unusedVariables false
set_option linter.unusedSimpArgs false
structure RV (b : Bool) (x y : List Int) (q : Rat) (n : Nat) : Prop where
 nx : Nn x
 ny : Nn y
 pos : 0 < dv 1000000000 y
 eq : q = qq (sg b (dv 1000000000 x)) (dv 1000000000 y)
 lx : x.length ≤ n
 ly : y.length ≤ n
theorem RV.mono {b : Bool} {x y : List Int} {q : Rat} {n m : Nat} (h : RV b x y q n) (hm : n ≤ m) : RV b x y q m := ⟨h.nx, h.ny, h.pos, h.eq, Nat.le_trans h.lx hm, Nat.le_trans h.ly hm⟩
theorem RV.x0 {b : Bool} {x y : List Int} {q : Rat} {n : Nat} (h : RV b x y q n) : 0 ≤ dv 1000000000 x := dv_nonneg (by decide) h.nx.dg
def RE (f : Nat → Option (Bool × List Int × List Int)) (q : Rat) (n : Nat) : Prop := ∃ b x y, Ev f (b, x, y) ∧ RV b x y q n
theorem qq_parts {a b : Int} (hb : 0 < b) : ∃ g : Int, 0 < g ∧ a = (qq a b).num * g ∧ b = ((qq a b).den : Int) * g := by
 obtain ⟨h1, h2⟩ := rat_low (a := a) (b := b) (by omega)
 refine ⟨(Int.gcd a b : Nat), ?_, ?_, ?_⟩
 ·have := Int.gcd_pos_of_ne_zero_right a (show b ≠ 0 by omega)
  omega
 ·rw [← h1]
  unfold Ra.ratN Ea.lowN
  rw [if_neg (by omega)]
  exact (Int.ediv_mul_cancel (Int.gcd_dvd_left a b)).symm
 ·rw [← h2]
  unfold Ra.ratD Ea.lowD
  rw [if_neg (by omega)]
  exact (Int.ediv_mul_cancel (Int.gcd_dvd_right a b)).symm
theorem qq_lt {a b c d : Int} (hb : 0 < b) (hd : 0 < d) : qq a b < qq c d ↔ a * d < c * b := by
 obtain ⟨g, hg, e1, e2⟩ := qq_parts (a := a) hb
 obtain ⟨h, hh, e3, e4⟩ := qq_parts (a := c) hd
 rw [Rat.lt_iff]
 generalize (qq a b).num = N1 at *
 generalize ((qq a b).den : Int) = D1 at *
 generalize (qq c d).num = N2 at *
 generalize ((qq c d).den : Int) = D2 at *
 subst e1 e2 e3 e4
 have k1 : N1 * g * (D2 * h) = N1 * D2 * (g * h) := by grind
 have k2 : N2 * h * (D1 * g) = N2 * D1 * (g * h) := by grind
 rw [k1, k2]
 exact (Int.mul_lt_mul_right (Int.mul_pos hg hh)).symm
theorem ratio_f (n d : Int) (hn : -9223372036854775807 ≤ n) (hn1 : n ≤ 9223372036854775807) (hd : 0 < d) (hd1 : d ≤ 9223372036854775807) : RE (fun k => dioramaref10_ratio.f k n d) (qq n d) 3 := by
 obtain ⟨y, ey, ny, vy, ly⟩ := of_f d (by omega) hd1
 by_cases h : n < 0
 ·obtain ⟨x, ex, nx, vx, lx⟩ := of_f (-n) (by omega) (by omega)
  refine ⟨true, x, y, ?_, ⟨nx, ny, by rw [vy]; exact hd, by rw [vx, vy]; simp [sg], lx, ly⟩⟩
  refine Ev.congr (fun k => if_pos h) ?_
  rw [w64 (by omega) (by omega)]
  exact Ev.bind ex (Ev.bind ey (Ev.now _))
 ·obtain ⟨x, ex, nx, vx, lx⟩ := of_f n (by omega) hn1
  refine ⟨false, x, y, ?_, ⟨nx, ny, by rw [vy]; exact hd, by rw [vx, vy]; simp [sg], lx, ly⟩⟩
  refine Ev.congr (fun k => if_neg h) ?_
  exact Ev.bind ex (Ev.bind ey (Ev.now _))
theorem sg_ne (a b : Bool) (x y : Int) : sg (a != b) (x * y) = sg a x * sg b y := by cases a <;> cases b <;> simp [sg, Int.neg_mul, Int.mul_neg]
theorem timesR_f {b1 b2 : Bool} {x1 y1 x2 y2 : List Int} {p q : Rat} {n m : Nat} (h1 : RV b1 x1 y1 p n) (h2 : RV b2 x2 y2 q m) (hl : n + m ≤ 1000000) : RE (fun k => dioramaref10_times.f k b1 x1 y1 b2 x2 y2) (p * q) (n + m) := by
 have l1 := h1.lx
 have l2 := h1.ly
 have l3 := h2.lx
 have l4 := h2.ly
 obtain ⟨x, ex, nx, vx, lx⟩ := times_f x1 x2 h1.nx h2.nx (by omega)
 obtain ⟨y, ey, ny, vy, ly⟩ := times_f y1 y2 h1.ny h2.ny (by omega)
 refine ⟨b1 != b2, x, y, Ev.congr (fun k => rfl) (Ev.bind ex (Ev.bind ey (Ev.now _))), ⟨nx, ny, by rw [vy]; exact Int.mul_pos h1.pos h2.pos, ?_, by omega, by omega⟩⟩
 rw [h1.eq, h2.eq, vx, vy, sg_ne]
 unfold qq
 rw [Rat.divInt_mul_divInt]
theorem sumR_f {b1 b2 : Bool} {x1 y1 x2 y2 : List Int} {p q : Rat} {n m : Nat} (h1 : RV b1 x1 y1 p n) (h2 : RV b2 x2 y2 q m) (hl : n + m + 2 ≤ 1000000) : RE (fun k => dioramaref02_Sum.f k b1 x1 y1 b2 x2 y2) (p + q) (n + m + 1) := by
 have l1 := h1.lx
 have l2 := h1.ly
 have l3 := h2.lx
 have l4 := h2.ly
 obtain ⟨u, eu, nu, vu, lu⟩ := times_f x1 y2 h1.nx h2.ny (by omega)
 obtain ⟨v, ev, nv, vv, lv⟩ := times_f x2 y1 h2.nx h1.ny (by omega)
 obtain ⟨y, ey, ny, vy, ly⟩ := times_f y1 y2 h1.ny h2.ny (by omega)
 have hpos : 0 < dv 1000000000 y := by rw [vy]; exact Int.mul_pos h1.pos h2.pos
 have heq : p + q = qq (sg b1 (dv 1000000000 u) + sg b2 (dv 1000000000 v)) (dv 1000000000 y) := by
  have e1 : sg b1 (dv 1000000000 u) = sg b1 (dv 1000000000 x1) * dv 1000000000 y2 := by rw [vu]; cases b1 <;> simp [sg, Int.neg_mul]
  have e2 : sg b2 (dv 1000000000 v) = sg b2 (dv 1000000000 x2) * dv 1000000000 y1 := by rw [vv]; cases b2 <;> simp [sg, Int.neg_mul]
  rw [h1.eq, h2.eq, vy, e1, e2]
  unfold qq
  rw [Rat.divInt_add_divInt _ _ (by have := h1.pos; omega) (by have := h2.pos; omega)]
 by_cases hb : b1 = b2
 ·subst hb
  obtain ⟨s, es, ns, vs, ls⟩ := plus_f u v nu nv (by omega) (by omega)
  refine ⟨b1, s, y, ?_, ⟨ns, ny, hpos, ?_, by omega, by omega⟩⟩
  ·refine Ev.congr (fun k => rfl) (Ev.bind eu (Ev.bind ev (Ev.bind ey ?_)))
   exact Ev.congr (fun k => if_pos (by simp)) (Ev.bind es (Ev.now _))
  ·rw [heq, vs]
   cases b1
   ·simp [sg]
   ·simp [sg, Int.neg_add]
 ·have hc := compare_f u v nu nv (by omega) (by omega)
  have hne : ¬ (b1 == b2) = true := by simpa using hb
  by_cases hle : dv 1000000000 v ≤ dv 1000000000 u
  ·obtain ⟨s, es, ns, vs, ls⟩ := minus_f u v nu nv (by omega) hle
   refine ⟨b1, s, y, ?_, ⟨ns, ny, hpos, ?_, by omega, by omega⟩⟩
   ·refine Ev.congr (fun k => rfl) (Ev.bind eu (Ev.bind ev (Ev.bind ey ?_)))
    refine Ev.congr (fun k => if_neg hne) (Ev.bind hc ?_)
    refine Ev.congr (fun k => if_pos ?_) (Ev.bind es (Ev.now _))
    unfold cmpI
    rw [if_neg (by omega)]
    split <;> decide
   ·rw [heq, vs]
    cases b1 <;> cases b2 <;> simp [sg] at hb ⊢ <;> congr 1 <;> omega
  ·obtain ⟨s, es, ns, vs, ls⟩ := minus_f v u nv nu (by omega) (by omega)
   refine ⟨b2, s, y, ?_, ⟨ns, ny, hpos, ?_, by omega, by omega⟩⟩
   ·refine Ev.congr (fun k => rfl) (Ev.bind eu (Ev.bind ev (Ev.bind ey ?_)))
    refine Ev.congr (fun k => if_neg hne) (Ev.bind hc ?_)
    refine Ev.congr (fun k => if_neg ?_) (Ev.bind es (Ev.now _))
    unfold cmpI
    rw [if_pos (by omega)]
    decide
   ·rw [heq, vs]
    cases b1 <;> cases b2 <;> simp [sg] at hb ⊢ <;> congr 1 <;> omega
theorem plusR_f {b1 b2 : Bool} {x1 y1 x2 y2 : List Int} {p q : Rat} {n m : Nat} (h1 : RV b1 x1 y1 p n) (h2 : RV b2 x2 y2 q m) (hl : n + m + 2 ≤ 1000000) : RE (fun k => dioramaref10_plus.f k b1 x1 y1 b2 x2 y2) (p + q) (n + m + 1) := by
 obtain ⟨b, x, y, he, hv⟩ := sumR_f h1 h2 hl
 exact ⟨b, x, y, Ev.congr (fun k => rfl) (Ev.bind he (Ev.now _)), hv⟩
theorem RV.neg {b : Bool} {x y : List Int} {q : Rat} {n : Nat} (h : RV b x y q n) : RV (!b) x y (-q) n := by
 refine ⟨h.nx, h.ny, h.pos, ?_, h.lx, h.ly⟩
 rw [h.eq]
 unfold qq
 rw [Rat.neg_divInt]
 congr 1
 cases b <;> simp [sg]
theorem RV.sign {b : Bool} {x y : List Int} {q : Rat} {n : Nat} (h : RV b x y q n) : (b && decide ((x.length : Int) > 0)) = decide (q < 0) := by
 have h0 := h.x0
 have hz := dv_eq_zero (by decide) h.nx
 have hq : q < 0 ↔ sg b (dv 1000000000 x) < 0 := by
  have e : (0 : Rat) = qq 0 1 := by unfold qq; simp
  rw [h.eq, e, qq_lt h.pos (by decide)]
  simp
 rw [Bool.eq_iff_iff]
 simp only [Bool.and_eq_true, decide_eq_true_eq, hq]
 have hl : (x.length : Int) > 0 ↔ dv 1000000000 x ≠ 0 := by
  rw [ne_eq, hz]
  cases x <;> simp
 rw [hl]
 cases b
 ·simp [sg]; omega
 ·simp [sg]; omega
theorem lessR_f {b1 b2 : Bool} {x1 y1 x2 y2 : List Int} {p q : Rat} {n m : Nat} (h1 : RV b1 x1 y1 p n) (h2 : RV b2 x2 y2 q m) (hl : n + m + 2 ≤ 1000000) : Ev (fun k => dioramaref02_Less.f k b1 x1 y1 b2 x2 y2) (decide (p < q)) := by
 obtain ⟨b, x, y, he, hv⟩ := sumR_f h1 h2.neg hl
 have hs := hv.sign
 have e : decide (p + -q < 0) = decide (p < q) := by
  congr 1
  apply propext
  constructor <;> intro h <;> grind
 rw [e] at hs
 refine Ev.congr (fun k => rfl) (Ev.bind he ?_)
 cases b with
 | true =>
  refine Ev.congr (fun k => if_pos rfl) ?_
  rw [← hs]
  exact Ev.now _
 | false =>
  refine Ev.congr (f := fun _ => some false) (fun k => if_neg (by simp)) ?_
  rw [← hs]
  exact Ev.now _
theorem equalR_f {b1 b2 : Bool} {x1 y1 x2 y2 : List Int} {p q : Rat} {n m : Nat} (h1 : RV b1 x1 y1 p n) (h2 : RV b2 x2 y2 q m) (hl : n + m + 2 ≤ 1000000) : Ev (fun k => dioramaref10_equal.f k b1 x1 y1 b2 x2 y2) (decide (p = q)) := by
 refine Ev.congr (fun k => rfl) (Ev.bind (lessR_f h1 h2 hl) ?_)
 by_cases h : p < q
 ·rw [decide_eq_true h, decide_eq_false (by intro e; subst e; exact Rat.lt_irrefl h)]
  exact Ev.congr (fun k => if_pos rfl) (Ev.now _)
 ·rw [decide_eq_false h]
  refine Ev.congr (fun k => if_neg (by decide)) (Ev.bind (lessR_f h2 h1 (by omega)) ?_)
  have e : (!decide (q < p)) = decide (p = q) := by
   rw [Bool.eq_iff_iff]
   simp only [Bool.not_eq_true', decide_eq_false_iff_not, decide_eq_true_eq]
   constructor
   ·intro h2; grind
   ·intro e; subst e; exact h
  rw [e]
  exact Ev.now _
theorem rate_f (d m n e : Int) (hn : 0 ≤ n) (hn1 : n ≤ 1000000) (he : 1 ≤ e) (he1 : e ≤ 1000000) : RE (fun k => dioramaref10_rate.f k d m n e) (qq n e) 3 := by
 obtain ⟨b, x, y, he, hv⟩ := ratio_f n e (by omega) (by omega) (by omega) (by omega)
 exact ⟨b, x, y, Ev.congr (fun k => rfl) (Ev.bind he (Ev.now _)), hv⟩
theorem media_f {b : Bool} {x y : List Int} {p : Rat} {N : Nat} (d m n e ts : Int) (hn : 0 ≤ n) (hn1 : n ≤ 1000000) (he : 1 ≤ e) (he1 : e ≤ 1000000) (hm : -9223372036854775807 ≤ m) (hm1 : m ≤ 9223372036854775807) (ht : 1 ≤ ts) (ht1 : ts ≤ 1000000) (h : RV b x y p N) (hl : N ≤ 1000) :
  RE (fun k => dioramaref10_media.f k d m n e ts b x y) (qq m ts + p * qq n e) (N + 7) := by
 obtain ⟨b1, x1, y1, e1, v1⟩ := ratio_f m ts hm hm1 (by omega) (by omega)
 obtain ⟨b2, x2, y2, e2, v2⟩ := rate_f d m n e hn hn1 he he1
 obtain ⟨b3, x3, y3, e3, v3⟩ := timesR_f h v2 (by omega)
 obtain ⟨b4, x4, y4, e4, v4⟩ := plusR_f v1 v3 (by omega)
 exact ⟨b4, x4, y4, Ev.congr (fun k => rfl) (Ev.bind e1 (Ev.bind e2 (Ev.bind e3 (Ev.bind e4 (Ev.now _))))), v4.mono (by omega)⟩
end Go.Proofs.Ytpbhepdgamoiaaa.Qr
namespace Go.Proofs.Ytpbhepdgamoiaaa.Qn
open Go.RowKit Go Go.Proofs.YtpbhepdgamoiaaaW.PrintWords Go.Proofs.YtpbhepdgamoiaaaW.PrintLast Go.Proofs.YtpbhepdgamoiaaaW.PrintMore Go.Proofs.Ytpbhepdgamoiaaa.Ml Go.Proofs.Ytpbhepdgamoiaaa.Mn Go.Proofs.Ytpbhepdgamoiaaa.Nd Go.Proofs.Ytpbhepdgamoiaaa.Pa Go.Proofs.Ytpbhepdgamoiaaa.Pb Go.Proofs.Ytpbhepdgamoiaaa.Rf Go.Proofs.Ytpbhepdgamoiaaa.Er Go.Proofs.Ytpbhepdgamoiaaa.Ek Go.Proofs.Ytpbhepdgamoiaaa.E Go.Proofs.Ytpbhepdgamoiaaa.Pe Go.Proofs.Ytpbhepdgamoiaaa.Pf Go.Proofs.Ytpbhepdgamoiaaa.Pg Go.Proofs.Ytpbhepdgamoiaaa.Qr
set_option linter.unusedVariables false
set_option linter.unusedSimpArgs false
def Lw (x : Ed) : Prop := (qq x.f2 x.f3).num = x.f2 ∧ ((qq x.f2 x.f3).den : Int) = x.f3
theorem qq_self (q : Rat) : qq q.num (q.den : Int) = q := by unfold qq; exact Rat.num_divInt_den q
theorem lw_low (x : Ed) : Lw (lowV x) := by
 unfold Lw lowV
 simp only [qq_self]
 exact ⟨trivial, trivial⟩
theorem qq_eq {a b c d : Int} (hb : b ≠ 0) (hd : d ≠ 0) : qq a b = qq c d ↔ a * d = c * b := by
 unfold qq
 exact Rat.divInt_eq_divInt_iff hb hd
def ovR (ms ts : Int) (a b : Ed) : Bool :=
 if a.f1 = -1 ∨ b.f1 = -1 then decide (a.f1 = -1 ∧ b.f1 = -1)
 else if a.f2 = 0 ∨ b.f2 = 0 then decide (a.f2 = 0 ∧ b.f2 = 0 ∧ a.f1 = b.f1)
 else decide (a.f2 * b.f3 = b.f2 * a.f3 ∧ qq a.f1 ts + qq a.f0 ms * qq a.f2 a.f3 = qq b.f1 ts)
theorem qq_div (a b : Int) : qq a b = (a : Rat) / (b : Rat) := by unfold qq; exact Rat.divInt_eq_div a b
theorem cast_ne {n : Int} (h : 1 ≤ n) : ((n : Int) : Rat) ≠ 0 := by
 intro e
 have : n = 0 := by exact_mod_cast e
 omega
theorem after_iff {ms ts a b d n e : Int} (hm : 1 ≤ ms) (ht : 1 ≤ ts) (he : 1 ≤ e) : (afterQ ms ts a n e d = qq b 1) ↔ (qq a ts + qq d ms * qq n e = qq b ts) := by
 unfold afterQ
 simp only [qq_div]
 have h1 := cast_ne hm
 have h2 := cast_ne ht
 have h3 := cast_ne he
 have h4 : ((1 : Int) : Rat) = 1 := rfl
 rw [h4]
 generalize (ms : Rat) = M at *
 generalize (ts : Rat) = T at *
 generalize (e : Rat) = E at *
 generalize (n : Rat) = N at *
 generalize (d : Rat) = D at *
 generalize (a : Rat) = A at *
 generalize (b : Rat) = B at *
 constructor
 ·intro h; grind
 ·intro h; grind
theorem cmpQ_zero (p q : Rat) : (cmpQ p q == 0) = decide (p = q) := by
 unfold cmpQ
 by_cases h : p < q
 ·rw [if_pos h, decide_eq_false (by intro e; subst e; exact Rat.lt_irrefl h)]; rfl
 ·rw [if_neg h]
  by_cases h2 : q < p
  ·rw [if_pos h2, decide_eq_false (by intro e; subst e; exact Rat.lt_irrefl h2)]; rfl
  ·rw [if_neg h2, decide_eq_true (by grind)]; rfl
theorem low_zero {n e : Int} (h0 : 0 ≤ n) (he : 1 ≤ e) : (qq n e).num = 0 ↔ n = 0 := by
 obtain ⟨g, hg, e1, e2⟩ := qq_parts (a := n) (b := e) (by omega)
 constructor
 ·intro h; rw [h] at e1; omega
 ·intro h
  rcases Int.mul_eq_zero.1 (e1.symm.trans h) with h2 | h2
  ·exact h2
  ·omega
theorem ovR1 {ms ts : Int} {a b : Ed} (h : a.f1 = -1 ∨ b.f1 = -1) : ovR ms ts a b = decide (a.f1 = -1 ∧ b.f1 = -1) := if_pos h
theorem ovR2 {ms ts : Int} {a b : Ed} (h : ¬ (a.f1 = -1 ∨ b.f1 = -1)) (h2 : a.f2 = 0 ∨ b.f2 = 0) : ovR ms ts a b = decide (a.f2 = 0 ∧ b.f2 = 0 ∧ a.f1 = b.f1) := (if_neg h).trans (if_pos h2)
theorem ovR3 {ms ts : Int} {a b : Ed} (h : ¬ (a.f1 = -1 ∨ b.f1 = -1)) (h2 : ¬ (a.f2 = 0 ∨ b.f2 = 0)) : ovR ms ts a b = decide (a.f2 * b.f3 = b.f2 * a.f3 ∧ qq a.f1 ts + qq a.f0 ms * qq a.f2 a.f3 = qq b.f1 ts) := (if_neg h).trans (if_neg h2)
theorem ov_eq {ms ts : Int} (hc : Ck ms ts) {a b : Ed} (ha : Wd a) (hl : Lw a) (hb : Vd b) : ovV ms ts a (lowV b) = ovR ms ts a b := by
 have c0 := hc.m0
 have c2 := hc.t0
 have a1 := ha.m0
 have a3 := ha.n0
 have a5 := ha.e0
 have b1 := hb.m0
 have b3 := hb.n0
 have b5 := hb.e0
 have hz := low_zero b3 b5
 have hlb : (lowV b).f1 = b.f1 := rfl
 have hlb2 : (lowV b).f2 = (qq b.f2 b.f3).num := rfl
 have hlb3 : (lowV b).f3 = ((qq b.f2 b.f3).den : Int) := rfl
 by_cases ea : a.f1 = -1
 ·rw [ovR1 (Or.inl ea)]
  unfold ovV overB kinB kB kS kN kE
  rw [hlb, hlb2, hlb3, cmpQ_zero, ea]
  by_cases eb : b.f1 = -1
  ·rw [eb]; simp
  ·have : ¬ b.f1 < 0 := by omega
   simp [this, eb]
 ·have na : ¬ a.f1 < 0 := by omega
  by_cases eb : b.f1 = -1
  ·rw [ovR1 (Or.inr eb)]
   unfold ovV overB kinB kB kS kN kE
   rw [hlb, hlb2, hlb3, cmpQ_zero, eb]
   simp [na, ea]
  ·have nb : ¬ b.f1 < 0 := by omega
   have hne : ¬ (a.f1 = -1 ∨ b.f1 = -1) := by omega
   by_cases za : a.f2 = 0
   ·rw [ovR2 hne (Or.inl za)]
    unfold ovV overB kinB kB kS kN kE
    rw [hlb, hlb2, hlb3, cmpQ_zero]
    simp only [if_neg na, if_neg nb, decide_eq_false na, decide_eq_false nb, if_pos za]
    by_cases zb : b.f2 = 0
    ·simp only [if_pos (hz.2 zb)]
     rw [Bool.eq_iff_iff]
     simp [za, zb]
    ·have zb' : ¬ (qq b.f2 b.f3).num = 0 := fun h => zb (hz.1 h)
     simp only [if_neg zb']
     have e1 : ((0 : Int) == (qq b.f2 b.f3).num) = false := by simpa using fun h => zb' h.symm
     rw [Bool.eq_iff_iff]
     simp [za, zb, e1]
   ·by_cases zb : b.f2 = 0
    ·rw [ovR2 hne (Or.inr zb)]
     unfold ovV overB kinB kB kS kN kE
     rw [hlb, hlb2, hlb3, cmpQ_zero]
     simp only [if_neg na, if_neg nb, decide_eq_false na, decide_eq_false nb, if_neg za, if_pos (hz.2 zb)]
     rw [Bool.eq_iff_iff]
     simp [za, zb]
    ·have zb' : ¬ (qq b.f2 b.f3).num = 0 := fun h => zb (hz.1 h)
     rw [ovR3 hne (by omega)]
     unfold ovV overB kinB kB kS kN kE
     rw [hlb, hlb2, hlb3, cmpQ_zero]
     simp only [if_neg na, if_neg nb, decide_eq_false na, decide_eq_false nb, if_neg za, if_neg zb']
     rw [Bool.eq_iff_iff]
     have hza : (a.f2 == 0) = false := by simpa using za
     simp only [Bool.and_eq_true, beq_iff_eq, decide_eq_true_eq, hza, Bool.false_or, true_and, and_true]
     rw [after_iff c0 c2 a5]
     have hk : (a.f2 = (qq b.f2 b.f3).num ∧ a.f3 = ((qq b.f2 b.f3).den : Int)) ↔ a.f2 * b.f3 = b.f2 * a.f3 := by
      rw [← qq_eq (by omega) (by omega)]
      constructor
      ·rintro ⟨h1, h2⟩
       rw [h1, h2, qq_self]
      ·intro h
       rw [← h]
       exact ⟨hl.1.symm, hl.2.symm⟩
     simp [hk]
theorem isEmpty_f (x : Ed) : dioramaref10_isEmpty.f x.f0 x.f1 x.f2 x.f3 = some (decide (x.f1 = -1)) := by
 unfold dioramaref10_isEmpty.f
 congr 1
theorem rover_f {ms ts : Int} (hc : Ck ms ts) {a b : Ed} (ha : Wd a) (hd : a.f0 ≤ 1099511627776) (hb : Vd b) : Ev (fun k => dioramaref10_over.f k a.f0 a.f1 a.f2 a.f3 b.f0 b.f1 b.f2 b.f3 ms ts) (ovR ms ts a b) := by
 have c0 := hc.m0
 have c1 := hc.m1
 have c2 := hc.t0
 have c3 := hc.t1
 have a0 := ha.d0
 have a1 := ha.m0
 have a2 := ha.m1
 have a3 := ha.n0
 have a4 := ha.n1
 have a5 := ha.e0
 have a6 := ha.e1
 have b1 := hb.m0
 have b2 := hb.m1
 have b3 := hb.n0
 have b4 := hb.n1
 have b5 := hb.e0
 have b6 := hb.e1
 have hj0 : ∀ z : Bool, z = decide (a.f1 = -1 ∨ b.f1 = -1) → Ev (fun k => dioramaref10_over.j0 k ms ts z a.f0 a.f1 a.f2 a.f3 b.f0 b.f1 b.f2 b.f3) (ovR ms ts a b) := by
  intro z hz
  refine Ev.step (fun k => by rw [dioramaref10_over.j0]) ?_
  unfold ovR
  by_cases h : a.f1 = -1 ∨ b.f1 = -1
  ·rw [hz, decide_eq_true h, if_pos h]
   refine Ev.congr (fun k => if_pos rfl) ?_
   rw [isEmpty_f, isEmpty_f]
   by_cases h1 : a.f1 = -1
   ·refine Ev.congr (f := fun _ => some (decide (a.f1 = -1 ∧ b.f1 = -1))) (fun k => ?_) (Ev.now _)
    simp [h1]
   ·refine Ev.congr (f := fun _ => some (decide (a.f1 = -1 ∧ b.f1 = -1))) (fun k => ?_) (Ev.now _)
    simp [h1]
  ·rw [hz, decide_eq_false h, if_neg h]
   refine Ev.congr (fun k => if_neg (by decide)) ?_
   have hj1 : ∀ y : Bool, y = decide (a.f2 = 0 ∨ b.f2 = 0) → Ev (fun k => dioramaref10_over.j1 k ms ts y a.f0 a.f1 a.f2 a.f3 b.f0 b.f1 b.f2 b.f3) (if a.f2 = 0 ∨ b.f2 = 0 then decide (a.f2 = 0 ∧ b.f2 = 0 ∧ a.f1 = b.f1) else decide (a.f2 * b.f3 = b.f2 * a.f3 ∧ qq a.f1 ts + qq a.f0 ms * qq a.f2 a.f3 = qq b.f1 ts)) := by
    intro y hy
    refine Ev.step (fun k => by rw [dioramaref10_over.j1]) ?_
    by_cases h2 : a.f2 = 0 ∨ b.f2 = 0
    ·rw [hy, decide_eq_true h2, if_pos h2]
     refine Ev.congr (f := fun _ => some (decide (a.f2 = 0 ∧ b.f2 = 0 ∧ a.f1 = b.f1))) (fun k => ?_) (Ev.now _)
     by_cases z1 : a.f2 = 0
     ·by_cases z2 : b.f2 = 0
      ·rw [if_pos rfl, if_pos z1, if_pos z2]; simp [z1, z2]; rfl
      ·rw [if_pos rfl, if_pos z1, if_neg z2]; simp [z2]
     ·rw [if_pos rfl, if_neg z1]; simp [z1]
    ·rw [hy, decide_eq_false h2, if_neg h2]
     refine Ev.congr (fun k => if_neg (by decide)) ?_
     have p1 : 0 ≤ a.f2 * b.f3 := Int.mul_nonneg a3 (by omega)
     have p2 : a.f2 * b.f3 ≤ 1000 * 1000 := Int.mul_le_mul a4 b6 (by omega) (by omega)
     have p3 : 0 ≤ b.f2 * a.f3 := Int.mul_nonneg b3 (by omega)
     have p4 : b.f2 * a.f3 ≤ 1000 * 1000 := Int.mul_le_mul b4 a6 (by omega) (by omega)
     rw [w64 (by omega) (by omega), w64 (by omega) (by omega)]
     by_cases h3 : a.f2 * b.f3 = b.f2 * a.f3
     ·refine Ev.congr (fun k => if_pos h3) ?_
      obtain ⟨e1, x1, y1, v1, r1⟩ := ratio_f a.f0 ms (by omega) (by omega) (by omega) (by omega)
      obtain ⟨e2, x2, y2, v2, r2⟩ := media_f a.f0 a.f1 a.f2 a.f3 ts a3 (by omega) a5 (by omega) (by omega) (by omega) c2 c3 r1 (by omega)
      obtain ⟨e3, x3, y3, v3, r3⟩ := ratio_f b.f1 ts (by omega) (by omega) (by omega) (by omega)
      have e : decide (a.f2 * b.f3 = b.f2 * a.f3 ∧ qq a.f1 ts + qq a.f0 ms * qq a.f2 a.f3 = qq b.f1 ts) = decide (qq a.f1 ts + qq a.f0 ms * qq a.f2 a.f3 = qq b.f1 ts) := by simp [h3]
      rw [e]
      exact Ev.bind v1 (Ev.bind v2 (Ev.bind v3 (Ev.bind (equalR_f r2 r3 (by omega)) (Ev.now _))))
     ·rw [decide_eq_false (fun h => h3 h.1)]
      exact Ev.congr (fun k => if_neg h3) (Ev.now _)
   by_cases h1 : a.f2 = 0
   ·exact Ev.congr (fun k => if_pos h1) (hj1 true (by simp [h1]))
   ·refine Ev.congr (fun k => if_neg h1) (hj1 _ ?_)
    simp [h1]; rfl
 unfold dioramaref10_over.f
 rw [isEmpty_f, isEmpty_f]
 by_cases h1 : a.f1 = -1
 ·refine Ev.congr (fun k => ?_) (hj0 true (by simp [h1]))
  simp [h1]
 ·refine Ev.congr (fun k => ?_) (hj0 (decide (b.f1 = -1)) (by simp [h1]))
  simp [h1]
end Go.Proofs.Ytpbhepdgamoiaaa.Qn
namespace Go.Proofs.Ytpbhepdgamoiaaa.Qo
open Go.RowKit Go Go.Proofs.YtpbhepdgamoiaaaW.PrintWords Go.Proofs.YtpbhepdgamoiaaaW.PrintLast Go.Proofs.YtpbhepdgamoiaaaW.PrintMore Go.Proofs.Ytpbhepdgamoiaaa.Ml Go.Proofs.Ytpbhepdgamoiaaa.Mn Go.Proofs.Ytpbhepdgamoiaaa.Nd Go.Proofs.Ytpbhepdgamoiaaa.Pa Go.Proofs.Ytpbhepdgamoiaaa.Pb Go.Proofs.Ytpbhepdgamoiaaa.Rf Go.Proofs.Ytpbhepdgamoiaaa.Er Go.Proofs.Ytpbhepdgamoiaaa.Ek Go.Proofs.Ytpbhepdgamoiaaa.E Go.Proofs.Ytpbhepdgamoiaaa.Pe Go.Proofs.Ytpbhepdgamoiaaa.Pf Go.Proofs.Ytpbhepdgamoiaaa.Pg Go.Proofs.Ytpbhepdgamoiaaa.Qr Go.Proofs.Ytpbhepdgamoiaaa.Qn
set_option linter.unusedVariables false
set_option linter.unusedSimpArgs false
theorem rlow_f {x : Ed} (h : Vd x) : dioramaref10_lowest.f x.f0 x.f1 x.f2 x.f3 = some ((lowV x).f0, (lowV x).f1, (lowV x).f2, (lowV x).f3) := low_f h
theorem push_lw {ms ts : Int} {out : List Ed} {e : Ed} (h : ∀ x ∈ out, Lw x) (he : Lw e) : ∀ x ∈ push ms ts out e, Lw x := by
 cases out with
 | nil => simpa [push] using he
 | cons a t =>
  simp only [push]
  split
  ·intro x hx
   simp only [List.mem_cons] at hx
   rcases hx with rfl | hx
   ·exact h a (by simp)
   ·exact h x (by simp [hx])
  ·intro x hx
   simp only [List.mem_cons] at hx
   rcases hx with rfl | hx
   ·exact he
   ·exact h x (by simpa using hx)
theorem rnormal_l {ms ts : Int} (hc : Ck ms ts) (l : List Ed) (hV : ∀ x ∈ l, Vd x) (hl : l.length ≤ 1000000000) (hsum : sumD l ≤ 1099511627776) (rest : List Ed) :
  ∀ pre out, l = pre ++ rest → sumD out = sumD pre → (∀ x ∈ out, Wd x) → (∀ x ∈ out, Lw x) → out.length ≤ pre.length →
   Ev (fun k => dioramaref10_normal.l0 k l ms ts out.reverse (pre.length : Int)) (nrmR ms ts out rest).reverse := by
 induction rest with
 | nil =>
  intro pre out he hs hw hlw ho
  subst he
  refine Ev.step (f := fun _ => some out.reverse) (fun k => ?_) (Ev.now _)
  simp only [dioramaref10_normal.l0, List.append_nil]
  rw [if_neg (by omega)]
 | cons x t ih =>
  intro pre out he hs hw hlw ho
  have hlen : l.length = pre.length + (t.length + 1) := by rw [he]; simp
  have hx : rd_T77 l (pre.length : Int) = x := by rw [he]; exact rd_at pre x t
  have hvx : Vd x := hV x (by rw [he]; simp)
  have hst : 0 ≤ sumD t := sumD_nonneg (fun y hy => hV y (by rw [he]; simp [hy]))
  have hsl : sumD l = sumD pre + x.f0 + sumD t := by rw [he, sumD_app]; simp only [sumD]; omega
  have hs0 : 0 ≤ sumD pre := by rw [← hs]; exact wd_sum hw
  have hd0 := hvx.d0
  have hsp : sumD (pre ++ [x]) = sumD pre + x.f0 := by rw [sumD_app]; simp [sumD]
  have hwl := wd_low hvx
  have hr := ih (pre ++ [x]) (push ms ts out (lowV x)) (by rw [he]; simp) (by rw [push_sum, hs, hsp]; rfl) (push_wd hw hwl) (push_lw hlw (lw_low x)) (by have := push_len ms ts out (lowV x); simp only [List.length_append, List.length_cons, List.length_nil]; omega)
  have hn : nrmR ms ts out (x :: t) = nrmR ms ts (push ms ts out (lowV x)) t := rfl
  have hpl : wrap64 ((pre.length : Int) + 1) = ((pre ++ [x]).length : Int) := by rw [w64 (by omega) (by omega)]; simp
  rw [hn]
  have hstep : ∀ k, dioramaref10_normal.l0 (k + 1) l ms ts out.reverse (pre.length : Int) = (if (out.reverse.length : Int) > 0 then (if 0 ≤ (wrap64 ((out.reverse.length : Int) - 1)) then (if (wrap64 ((out.reverse.length : Int) - 1)) < (out.reverse.length : Int) then ((dioramaref10_over.f k ((rd_T77 out.reverse (wrap64 ((out.reverse.length : Int) - 1))).f0) ((rd_T77 out.reverse (wrap64 ((out.reverse.length : Int) - 1))).f1) ((rd_T77 out.reverse (wrap64 ((out.reverse.length : Int) - 1))).f2) ((rd_T77 out.reverse (wrap64 ((out.reverse.length : Int) - 1))).f3) x.f0 x.f1 x.f2 x.f3 ms ts).bind fun t => (if t = true then (dioramaref10_normal.l0 k l ms ts (out.reverse.set ((wrap64 ((out.reverse.length : Int) - 1)) : Int).toNat (⟨wrap64 (((rd_T77 out.reverse (wrap64 ((out.reverse.length : Int) - 1))).f0) + x.f0), (rd_T77 out.reverse (wrap64 ((out.reverse.length : Int) - 1))).f1, (rd_T77 out.reverse (wrap64 ((out.reverse.length : Int) - 1))).f2, (rd_T77 out.reverse (wrap64 ((out.reverse.length : Int) - 1))).f3⟩ : Ed)) ((pre ++ [x]).length : Int)) else (if out.reverse.length < 4398046511104 then (dioramaref10_normal.l0 k l ms ts (out.reverse ++ [lowV x]) ((pre ++ [x]).length : Int)) else (none)))) else (none)) else (none)) else (if out.reverse.length < 4398046511104 then (dioramaref10_normal.l0 k l ms ts (out.reverse ++ [lowV x]) ((pre ++ [x]).length : Int)) else (none))) := by
   intro k
   simp only [dioramaref10_normal.l0]
   rw [if_pos (by omega), hx, rlow_f hvx, hpl]
   simp only [Option.bind_some, show 0 ≤ (pre.length : Int) by omega, if_true]
  cases out with
  | nil =>
   refine Ev.step (f := fun k => dioramaref10_normal.l0 k l ms ts (push ms ts [] (lowV x)).reverse ((pre ++ [x]).length : Int)) (fun k => ?_) hr
   rw [hstep, if_neg (show ¬ (([] : List Ed).reverse.length : Int) > 0 by simp), if_pos (show ([] : List Ed).reverse.length < 4398046511104 by simp)]
   rfl
  | cons a o =>
   have hla : (a :: o).reverse.length = o.length + 1 := by simp
   have hra : rd_T77 (a :: o).reverse (o.length : Int) = a := by
    rw [List.reverse_cons]
    have := rd_at o.reverse a []
    rw [List.length_reverse] at this
    exact this
   have hol : o.length + 1 ≤ pre.length := ho
   have hsa := wd_sum (l := o) (fun y hy => hw y (by simp [hy]))
   have hda : a.f0 + x.f0 ≤ 1099511627776 := by simp only [sumD] at hs; omega
   have ha0 := (hw a (by simp)).d0
   have hov := rover_f hc (hw a (by simp)) (by omega) hvx
   rw [← ov_eq hc (hw a (by simp)) (hlw a (by simp)) hvx] at hov
   refine Ev.step (f := fun k => (dioramaref10_over.f k a.f0 a.f1 a.f2 a.f3 x.f0 x.f1 x.f2 x.f3 ms ts).bind fun t => (if t = true then (dioramaref10_normal.l0 k l ms ts ((⟨a.f0 + x.f0, a.f1, a.f2, a.f3⟩ : Ed) :: o).reverse ((pre ++ [x]).length : Int)) else (dioramaref10_normal.l0 k l ms ts (lowV x :: a :: o).reverse ((pre ++ [x]).length : Int)))) (fun k => ?_) (Ev.bind hov ?_)
   ·rw [hstep, hla, if_pos (by omega), w64 (by omega) (by omega), show ((o.length + 1 : Nat) : Int) - 1 = (o.length : Int) by omega, if_pos (by omega), if_pos (by omega), hra, w64 (by omega) (by omega), if_pos (show o.length + 1 < 4398046511104 by omega)]
    have e1 : (a :: o).reverse.set (o.length : Int).toNat (⟨a.f0 + x.f0, a.f1, a.f2, a.f3⟩ : Ed) = ((⟨a.f0 + x.f0, a.f1, a.f2, a.f3⟩ : Ed) :: o).reverse := by
     rw [List.reverse_cons, List.reverse_cons, Int.toNat_natCast]
     have : o.length = o.reverse.length := by simp
     rw [this, List.set_append_right _ _ (Nat.le_refl _)]
     simp
    rw [e1, List.reverse_cons (a := lowV x)]
   ·have hp : push ms ts (a :: o) (lowV x) = if ovV ms ts a (lowV x) = true then (⟨a.f0 + (lowV x).f0, a.f1, a.f2, a.f3⟩ : Ed) :: o else lowV x :: a :: o := rfl
    rw [hp] at hr
    rw [hp]
    by_cases hb : ovV ms ts a (lowV x) = true
    ·rw [if_pos hb] at hr ⊢
     exact Ev.congr (fun k => if_pos hb) hr
    ·rw [if_neg hb] at hr ⊢
     exact Ev.congr (fun k => if_neg hb) hr
theorem rnormal_f {ms ts : Int} (hc : Ck ms ts) (l : List Ed) (hV : ∀ x ∈ l, Vd x) (hl : l.length ≤ 1000000000) (hsum : sumD l ≤ 1099511627776) : Ev (fun k => dioramaref10_normal.f k l ms ts) (nrm ms ts l) :=
 rnormal_l hc l hV hl hsum l [] [] rfl rfl (by simp) (by simp) (by simp)
theorem RV.int {b : Bool} {x y : List Int} {z : Int} {n : Nat} (h : RV b x y (qq z 1) n) (hy : dv 1000000000 y = 1) : sg b (dv 1000000000 x) = z := by
 have e := h.eq
 rw [hy, qq_eq (by decide) (by decide)] at e
 omega
structure RZ (b : Bool) (x y : List Int) (z : Int) (n : Nat) : Prop where
 nx : Nn x
 ny : Nn y
 y1 : dv 1000000000 y = 1
 eq : sg b (dv 1000000000 x) = z
 lx : x.length ≤ n
 ly : y.length ≤ n
def ZE (f : Nat → Option (Bool × List Int × List Int)) (z : Int) (n : Nat) : Prop := ∃ b x y, Ev f (b, x, y) ∧ RZ b x y z n
theorem ratioZ_f (n : Int) (hn : -9223372036854775807 ≤ n) (hn1 : n ≤ 9223372036854775807) : ZE (fun k => dioramaref10_ratio.f k n 1) n 3 := by
 obtain ⟨y, ey, ny, vy, ly⟩ := of_f 1 (by omega) (by omega)
 by_cases h : n < 0
 ·obtain ⟨x, ex, nx, vx, lx⟩ := of_f (-n) (by omega) (by omega)
  refine ⟨true, x, y, ?_, ⟨nx, ny, vy, by rw [vx]; simp [sg], lx, ly⟩⟩
  refine Ev.congr (fun k => if_pos h) ?_
  rw [w64 (by omega) (by omega)]
  exact Ev.bind ex (Ev.bind ey (Ev.now _))
 ·obtain ⟨x, ex, nx, vx, lx⟩ := of_f n (by omega) hn1
  refine ⟨false, x, y, ?_, ⟨nx, ny, vy, by rw [vx]; simp [sg], lx, ly⟩⟩
  refine Ev.congr (fun k => if_neg h) ?_
  exact Ev.bind ex (Ev.bind ey (Ev.now _))
theorem plusZ_f {b1 b2 : Bool} {x1 y1 x2 y2 : List Int} {p q : Int} {n m : Nat} (h1 : RZ b1 x1 y1 p n) (h2 : RZ b2 x2 y2 q m) (hl : n + m + 2 ≤ 1000000) : ZE (fun k => dioramaref10_plus.f k b1 x1 y1 b2 x2 y2) (p + q) (n + m + 1) := by
 have l1 := h1.lx
 have l2 := h1.ly
 have l3 := h2.lx
 have l4 := h2.ly
 obtain ⟨u, eu, nu, vu, lu⟩ := times_f x1 y2 h1.nx h2.ny (by omega)
 obtain ⟨v, ev, nv, vv, lv⟩ := times_f x2 y1 h2.nx h1.ny (by omega)
 obtain ⟨y, ey, ny, vy, ly⟩ := times_f y1 y2 h1.ny h2.ny (by omega)
 rw [h2.y1, Int.mul_one] at vu
 rw [h1.y1, Int.mul_one] at vv
 rw [h1.y1, h2.y1] at vy
 have e1 := h1.eq
 have e2 := h2.eq
 rw [← vu] at e1
 rw [← vv] at e2
 by_cases hb : b1 = b2
 ·subst hb
  obtain ⟨s, es, ns, vs, ls⟩ := plus_f u v nu nv (by omega) (by omega)
  refine ⟨b1, s, y, ?_, ⟨ns, ny, vy, ?_, by omega, by omega⟩⟩
  ·refine Ev.congr (fun k => rfl) (Ev.bind (a := (b1, s, y)) (Ev.congr (fun k => rfl) (Ev.bind eu (Ev.bind ev (Ev.bind ey ?_)))) (Ev.now _))
   exact Ev.congr (fun k => if_pos (by simp)) (Ev.bind es (Ev.now _))
  ·rw [vs]
   cases b1 <;> simp [sg] at e1 e2 ⊢ <;> omega
 ·have hcp := compare_f u v nu nv (by omega) (by omega)
  have hne : ¬ (b1 == b2) = true := by simpa using hb
  by_cases hle : dv 1000000000 v ≤ dv 1000000000 u
  ·obtain ⟨s, es, ns, vs, ls⟩ := minus_f u v nu nv (by omega) hle
   refine ⟨b1, s, y, ?_, ⟨ns, ny, vy, ?_, by omega, by omega⟩⟩
   ·refine Ev.congr (fun k => rfl) (Ev.bind (a := (b1, s, y)) (Ev.congr (fun k => rfl) (Ev.bind eu (Ev.bind ev (Ev.bind ey ?_)))) (Ev.now _))
    refine Ev.congr (fun k => if_neg hne) (Ev.bind hcp ?_)
    refine Ev.congr (fun k => if_pos ?_) (Ev.bind es (Ev.now _))
    unfold cmpI
    rw [if_neg (by omega)]
    split <;> decide
   ·rw [vs]
    cases b1 <;> cases b2 <;> simp [sg] at hb e1 e2 ⊢ <;> omega
  ·obtain ⟨s, es, ns, vs, ls⟩ := minus_f v u nv nu (by omega) (by omega)
   refine ⟨b2, s, y, ?_, ⟨ns, ny, vy, ?_, by omega, by omega⟩⟩
   ·refine Ev.congr (fun k => rfl) (Ev.bind (a := (b2, s, y)) (Ev.congr (fun k => rfl) (Ev.bind eu (Ev.bind ev (Ev.bind ey ?_)))) (Ev.now _))
    refine Ev.congr (fun k => if_neg hne) (Ev.bind hcp ?_)
    refine Ev.congr (fun k => if_neg ?_) (Ev.bind es (Ev.now _))
    unfold cmpI
    rw [if_pos (by omega)]
    decide
   ·rw [vs]
    cases b1 <;> cases b2 <;> simp [sg] at hb e1 e2 ⊢ <;> omega
theorem told_l {ms ts : Int} (hc : Ck ms ts) (l : List Ed) (hV : ∀ x ∈ l, Vd x) (hl : l.length ≤ 10000) (rest : List Ed) :
  ∀ pre b x y, l = pre ++ rest → RZ b x y (sumD pre) (3 + 4 * pre.length) → Ev (fun k => dioramaref10_told.l0 k l ms ts (pre.length : Int) b x y) (nrmV ms ts l) := by
 induction rest with
 | nil =>
  intro pre b x y he hz
  simp only [List.append_nil] at he
  subst he
  have h0 : 0 ≤ sumD l := sumD_nonneg hV
  have hx0 : 0 ≤ dv 1000000000 x := dv_nonneg (by decide) hz.nx.dg
  have hxe : dv 1000000000 x = sumD l := by
   have := hz.eq
   cases b <;> simp [sg] at this <;> omega
  have hsm := small_f x 1099511627776 hz.nx (by have := hz.lx; omega) (by decide) (by decide)
  rw [hxe] at hsm
  refine Ev.step (fun k => by rw [dioramaref10_told.l0]) ?_
  refine Ev.congr (fun k => if_neg (by omega)) (Ev.bind hsm ?_)
  unfold nrmV
  by_cases hb : 1099511627776 < sumD l
  ·rw [if_pos hb, if_pos hb]
   exact Ev.congr (fun k => if_neg (by simp)) (Ev.now _)
  ·rw [if_neg hb, if_neg hb]
   refine Ev.congr (fun k => if_pos rfl) (Ev.bind (rnormal_f hc l hV (by omega) (by omega)) ?_)
   unfold fin nrm
   by_cases h20 : 20 < (nrmR ms ts [] l).length
   ·rw [if_pos h20]
    exact Ev.congr (fun k => if_pos (by rw [List.length_reverse]; omega)) (Ev.now _)
   ·rw [if_neg h20]
    exact Ev.congr (fun k => if_neg (by rw [List.length_reverse]; omega)) (Ev.now _)
 | cons e t ih =>
  intro pre b x y he hz
  have hlen : l.length = pre.length + (t.length + 1) := by rw [he]; simp
  have hx : rd_T77 l (pre.length : Int) = e := by rw [he]; exact rd_at pre e t
  have hv : Vd e := hV e (by rw [he]; simp)
  have hd0 := hv.d0
  have hd1 := hv.d1
  obtain ⟨b2, x2, y2, e2, z2⟩ := ratioZ_f e.f0 (by omega) (by omega)
  obtain ⟨b3, x3, y3, e3, z3⟩ := plusZ_f hz z2 (by omega)
  have hsp : sumD (pre ++ [e]) = sumD pre + e.f0 := by rw [sumD_app]; simp [sumD]
  have hr := ih (pre ++ [e]) b3 x3 y3 (by rw [he]; simp) (by
   rw [hsp]
   refine ⟨z3.nx, z3.ny, z3.y1, z3.eq, ?_, ?_⟩
   ·have := z3.lx; simp only [List.length_append, List.length_cons, List.length_nil]; omega
   ·have := z3.ly; simp only [List.length_append, List.length_cons, List.length_nil]; omega)
  refine Ev.step (fun k => by rw [dioramaref10_told.l0]) ?_
  refine Ev.congr (fun k => if_pos (by omega)) (Ev.congr (fun k => if_pos (by omega)) ?_)
  rw [hx]
  refine Ev.bind e2 (Ev.bind e3 ?_)
  have hpl : wrap64 ((pre.length : Int) + 1) = ((pre ++ [e]).length : Int) := by rw [w64 (by omega) (by omega)]; simp
  rw [hpl]
  exact hr
theorem told_f {ms ts : Int} (hc : Ck ms ts) (l : List Ed) (hV : ∀ x ∈ l, Vd x) (hl : l.length ≤ 10000) : Ev (fun k => dioramaref10_told.f k l ms ts) (nrmV ms ts l) := by
 obtain ⟨b, x, y, e, z⟩ := ratioZ_f 0 (by decide) (by decide)
 exact Ev.congr (fun k => rfl) (Ev.bind e (told_l hc l hV hl l [] b x y rfl z))
end Go.Proofs.Ytpbhepdgamoiaaa.Qo
namespace Go.Proofs.Ytpbhepdgamoiaaa.Qw
open Go.RowKit Go Go.Proofs.YtpbhepdgamoiaaaW.PrintWords Go.Proofs.YtpbhepdgamoiaaaW.PrintLast Go.Proofs.YtpbhepdgamoiaaaW.PrintMore Go.Proofs.Ytpbhepdgamoiaaa.Ml Go.Proofs.Ytpbhepdgamoiaaa.Mn Go.Proofs.Ytpbhepdgamoiaaa.Nd Go.Proofs.Ytpbhepdgamoiaaa.Pa Go.Proofs.Ytpbhepdgamoiaaa.Pb Go.Proofs.Ytpbhepdgamoiaaa.Pc Go.Proofs.Ytpbhepdgamoiaaa.Rf Go.Proofs.Ytpbhepdgamoiaaa.Er Go.Proofs.Ytpbhepdgamoiaaa.Ek Go.Proofs.Ytpbhepdgamoiaaa.E Go.Proofs.Ytpbhepdgamoiaaa.Pe Go.Proofs.Ytpbhepdgamoiaaa.Pf Go.Proofs.Ytpbhepdgamoiaaa.Qr Go.Proofs.Ytpbhepdgamoiaaa.Qn Go.Proofs.Ytpbhepdgamoiaaa.Ew
set_option linter.unusedVariables false
set_option linter.unusedSimpArgs false
end Go.Proofs.Ytpbhepdgamoiaaa.Qw
namespace Go.Proofs.Ytpbhepdgamoiaaa.Nm
open Go.RowKit Go Go.Proofs.Ytpbhepdgamoiaaa.Rf Go.Proofs.Ytpbhepdgamoiaaa.Er Go.Proofs.Ytpbhepdgamoiaaa.Ek Go.Proofs.Ytpbhepdgamoiaaa.Et Go.Proofs.Ytpbhepdgamoiaaa.E Go.Proofs.Ytpbhepdgamoiaaa.Pe Go.Proofs.Ytpbhepdgamoiaaa.Pf Go.Proofs.Ytpbhepdgamoiaaa.Qr Go.Proofs.Ytpbhepdgamoiaaa.Qn Go.Proofs.Ytpbhepdgamoiaaa.Qw
set_option linter.unusedVariables false
set_option linter.unusedSimpArgs false
abbrev noV : (Int × Int) × Bool × Int := ((0, 1), false, 0)
end Go.Proofs.Ytpbhepdgamoiaaa.Nm
namespace Go.Proofs.Ytpbhepdgamoiaaa.Qp
open Go.RowKit Go Go.Proofs.YtpbhepdgamoiaaaW.PrintWords Go.Proofs.YtpbhepdgamoiaaaW.PrintLast Go.Proofs.YtpbhepdgamoiaaaW.PrintMore Go.Proofs.Ytpbhepdgamoiaaa.Ml Go.Proofs.Ytpbhepdgamoiaaa.Mn Go.Proofs.Ytpbhepdgamoiaaa.Nd Go.Proofs.Ytpbhepdgamoiaaa.Pa Go.Proofs.Ytpbhepdgamoiaaa.Pb Go.Proofs.Ytpbhepdgamoiaaa.Rf Go.Proofs.Ytpbhepdgamoiaaa.Er Go.Proofs.Ytpbhepdgamoiaaa.Ek Go.Proofs.Ytpbhepdgamoiaaa.E Go.Proofs.Ytpbhepdgamoiaaa.Pe Go.Proofs.Ytpbhepdgamoiaaa.Pf Go.Proofs.Ytpbhepdgamoiaaa.Pg Go.Proofs.Ytpbhepdgamoiaaa.Qr Go.Proofs.Ytpbhepdgamoiaaa.Qn Go.Proofs.Ytpbhepdgamoiaaa.Qo
set_option linter.unusedVariables false
set_option linter.unusedSimpArgs false
theorem bad_f (x : Ed) : dioramaref10_badEdit.f x.f0 x.f1 x.f2 x.f3 = some (!decide (Vd x)) := by
 unfold dioramaref10_badEdit.f
 rw [isEmpty_f]
 by_cases h1 : x.f0 < 1
 ·rw [if_pos h1, decide_eq_false (fun h => by have := h.d0; omega)]; rfl
 rw [if_neg h1]
 by_cases h2 : x.f0 > 1099511627776
 ·rw [if_pos h2, decide_eq_false (fun h => by have := h.d1; omega)]; rfl
 rw [if_neg h2]
 by_cases h3 : x.f1 < -1
 ·rw [if_pos h3, decide_eq_false (fun h => by have := h.m0; omega)]; rfl
 rw [if_neg h3]
 by_cases h4 : x.f1 > 1099511627776
 ·rw [if_pos h4, decide_eq_false (fun h => by have := h.m1; omega)]; rfl
 rw [if_neg h4]
 by_cases h5 : x.f2 < 0
 ·rw [if_pos h5, decide_eq_false (fun h => by have := h.n0; omega)]; rfl
 rw [if_neg h5]
 by_cases h6 : x.f2 > 1000
 ·rw [if_pos h6, decide_eq_false (fun h => by have := h.n1; omega)]; rfl
 rw [if_neg h6]
 by_cases h7 : x.f3 < 1
 ·rw [if_pos h7, decide_eq_false (fun h => by have := h.e0; omega)]; rfl
 rw [if_neg h7]
 by_cases h8 : x.f3 > 1000
 ·rw [if_pos h8, decide_eq_false (fun h => by have := h.e1; omega)]; rfl
 rw [if_neg h8]
 simp only [Option.bind_some]
 by_cases h9 : x.f1 = -1
 ·rw [if_pos (decide_eq_true h9)]
  by_cases h10 : x.f2 = 1
  ·rw [if_pos h10]
   by_cases h11 : x.f3 = 1
   ·rw [decide_eq_true (show Vd x from ⟨by omega, by omega, by omega, by omega, by omega, by omega, by omega, by omega, fun _ => ⟨h10, h11⟩⟩), h11]
    rfl
   ·rw [decide_eq_false (fun h => h11 (h.em (by omega)).2)]
    simp [h11]
  ·rw [if_neg h10, decide_eq_false (fun h => h10 (h.em (by omega)).1)]
   rfl
 ·rw [if_neg (by simpa using h9), decide_eq_true (show Vd x from ⟨by omega, by omega, by omega, by omega, by omega, by omega, by omega, by omega, fun h => by omega⟩)]
  rfl
theorem rcheck_l (l : List Ed) (hl : l.length ≤ 20) (rest : List Ed) : ∀ pre, l = pre ++ rest → (∀ x ∈ pre, Vd x) → Ev (fun k => dioramaref10_Check.l0 k l (sumD pre) (pre.length : Int)) (if (∀ x ∈ rest, Vd x) ∧ sumD l ≤ 1099511627776 then 0 else 33) := by
 induction rest with
 | nil =>
  intro pre he hp
  subst he
  refine Ev.step (f := fun _ => some (if (∀ x ∈ ([] : List Ed), Vd x) ∧ sumD (pre ++ []) ≤ 1099511627776 then 0 else 33)) (fun k => ?_) (Ev.now _)
  simp only [dioramaref10_Check.l0, List.append_nil]
  rw [if_neg (by omega)]
  by_cases h : sumD pre > 1099511627776
  ·rw [if_pos h, if_neg (by intro hh; omega)]
  ·rw [if_neg h, if_pos ⟨by simp, by omega⟩]
 | cons x t ih =>
  intro pre he hp
  have hlen : l.length = pre.length + (t.length + 1) := by rw [he]; simp
  have hx : rd_T77 l (pre.length : Int) = x := by rw [he]; exact rd_at pre x t
  by_cases hV : Vd x
  ·have hs : sumD (pre ++ [x]) = sumD pre + x.f0 := by rw [sumD_app]; simp [sumD]
   have hb := sumD_le hp
   have h0 := sumD_nonneg hp
   have hr := ih (pre ++ [x]) (by rw [he]; simp) (by intro y hy; simp only [List.mem_append, List.mem_singleton] at hy; rcases hy with hy | rfl; exact hp y hy; exact hV)
   have e : ((∀ y ∈ x :: t, Vd y) ∧ sumD l ≤ 1099511627776) = ((∀ y ∈ t, Vd y) ∧ sumD l ≤ 1099511627776) := by
    apply propext
    constructor
    ·rintro ⟨h1, h2⟩; exact ⟨fun y hy => h1 y (by simp [hy]), h2⟩
    ·rintro ⟨h1, h2⟩; exact ⟨fun y hy => by simp only [List.mem_cons] at hy; rcases hy with rfl | hy; exact hV; exact h1 y hy, h2⟩
   simp only [e]
   refine Ev.step (fun k => ?_) hr
   simp only [dioramaref10_Check.l0]
   rw [if_pos (by omega), if_pos (by omega), hx, bad_f, decide_eq_true hV]
   simp only [Option.bind_some, Bool.not_true, if_neg (show ¬ (false = true) by decide)]
   rw [w64 (by have := hV.d0; omega) (by have := hV.d1; omega), w64 (by omega) (by omega), hs]
   simp
  ·refine Ev.step (f := fun _ => some 33) (fun k => ?_) ?_
   ·simp only [dioramaref10_Check.l0]
    rw [if_pos (by omega), if_pos (by omega), hx, bad_f, decide_eq_false hV]
    simp
   ·rw [if_neg (fun h => hV (h.1 x (by simp)))]
    exact Ev.now _
theorem rscale_f (n : Int) : dioramaref10_isScale.f n = some (decide (1 ≤ n ∧ n ≤ 1000000)) := by
 unfold dioramaref10_isScale.f
 by_cases h : n ≥ 1
 ·rw [if_pos h]; simp; omega
 ·rw [if_neg h]; simp; omega
theorem rcheck_f (l : List Ed) (ms ts : Int) : Ev (fun k => dioramaref10_Check.f k l ms ts) (chk l ms ts) := by
 have h0 : ∀ b, Ev (fun k => dioramaref10_Check.j0 k l b) (if b = true then 1 else if 20 < l.length then 2 else if (∀ x ∈ l, Vd x) ∧ sumD l ≤ 1099511627776 then 0 else 33) := by
  intro b
  by_cases hb : b = true
  ·rw [if_pos hb]
   refine Ev.step (f := fun _ => some 1) (fun k => ?_) (Ev.now _)
   simp only [dioramaref10_Check.j0]
   rw [if_pos hb]
  ·rw [if_neg hb]
   by_cases hl : 20 < l.length
   ·rw [if_pos hl]
    refine Ev.step (f := fun _ => some 2) (fun k => ?_) (Ev.now _)
    simp only [dioramaref10_Check.j0]
    rw [if_neg hb, if_pos (by omega)]
   ·rw [if_neg hl]
    refine Ev.step (fun k => ?_) (rcheck_l l (by omega) l [] rfl (by simp))
    simp only [dioramaref10_Check.j0]
    rw [if_neg hb, if_neg (by omega)]
    rfl
 unfold chk
 by_cases h1 : 1 ≤ ms ∧ ms ≤ 1000000
 ·by_cases h2 : 1 ≤ ts ∧ ts ≤ 1000000
  ·rw [if_neg (not_not_intro ⟨h1.1, h1.2, h2.1, h2.2⟩)]
   refine Ev.congr (fun k => ?_) (h0 false)
   unfold dioramaref10_Check.f
   rw [rscale_f, rscale_f, decide_eq_true h1, decide_eq_true h2]
   rfl
  ·rw [if_pos (fun h => h2 ⟨h.t0, h.t1⟩)]
   refine Ev.congr (fun k => ?_) (h0 true)
   unfold dioramaref10_Check.f
   rw [rscale_f, rscale_f, decide_eq_true h1, decide_eq_false h2]
   rfl
 ·rw [if_pos (fun h => h1 ⟨h.m0, h.m1⟩)]
  refine Ev.congr (fun k => ?_) (h0 true)
  unfold dioramaref10_Check.f
  rw [rscale_f, decide_eq_false h1]
  rfl
end Go.Proofs.Ytpbhepdgamoiaaa.Qp
namespace Go.Proofs.Ytpbhepdgamoiaaa.Qe
open Go.RowKit Go Go.Proofs.YtpbhepdgamoiaaaW.PrintWords Go.Proofs.YtpbhepdgamoiaaaW.PrintLast Go.Proofs.YtpbhepdgamoiaaaW.PrintMore Go.Proofs.Ytpbhepdgamoiaaa.Mn Go.Proofs.Ytpbhepdgamoiaaa.Er Go.Proofs.Ytpbhepdgamoiaaa.Ek Go.Proofs.Ytpbhepdgamoiaaa.E Go.Proofs.Ytpbhepdgamoiaaa.Pe Go.Proofs.Ytpbhepdgamoiaaa.Pf Go.Proofs.Ytpbhepdgamoiaaa.Pg
set_option linter.unusedVariables false
set_option linter.unusedSimpArgs false
theorem eqEdits_l (a b : List Ed) (hl : a.length ≤ 1000000) (ra : List Ed) : ∀ (pre rb : List Ed), a = pre ++ ra → b = pre ++ rb → ra.length = rb.length → Ev (fun k => dioramaref00_EqEdits.l0 k a b (pre.length : Int)) (decide (ra = rb)) := by
 induction ra with
 | nil =>
  intro pre rb ha hb hr
  have : rb = [] := by cases rb with | nil => rfl | cons _ _ => simp at hr
  subst this
  refine Ev.step (f := fun _ => some (decide (([] : List Ed) = []))) (fun k => ?_) (Ev.now _)
  simp only [dioramaref00_EqEdits.l0]
  rw [if_neg (by rw [ha]; simp)]
  simp
 | cons x t ih =>
  intro pre rb ha hb hr
  cases rb with
  | nil => simp at hr
  | cons y u =>
   have hx : rd_T77 a (pre.length : Int) = x := by rw [ha]; exact rd_at pre x t
   have hy : rd_T77 b (pre.length : Int) = y := by rw [hb]; exact rd_at pre y u
   have hla : a.length = pre.length + (t.length + 1) := by rw [ha]; simp
   have hlb : b.length = pre.length + (u.length + 1) := by rw [hb]; simp
   simp only [List.length_cons, Nat.add_right_cancel_iff] at hr
   by_cases hxy : x = y
   ·subst hxy
    have hi := ih (pre ++ [x]) u (by rw [ha]; simp) (by rw [hb]; simp) hr
    have e : decide (x :: t = x :: u) = decide (t = u) := by simp
    rw [e]
    refine Ev.step (fun k => ?_) hi
    simp only [dioramaref00_EqEdits.l0]
    rw [if_pos (by omega), if_pos (by omega), if_pos (by omega), hx, hy, ed_ne, if_neg (by simp), w64 (by omega) (by omega)]
    simp
   ·rw [decide_eq_false (by intro h; injection h with h _; exact hxy h)]
    refine Ev.step (f := fun _ => some false) (fun k => ?_) (Ev.now _)
    simp only [dioramaref00_EqEdits.l0]
    rw [if_pos (by omega), if_pos (by omega), if_pos (by omega), hx, hy, ed_ne, if_pos (by simpa using hxy)]
theorem eqEdits_f (a b : List Ed) (hl : a.length ≤ 1000000) : Ev (fun k => dioramaref00_EqEdits.f k a b) (decide (a = b)) := by
 by_cases h : a.length = b.length
 ·refine Ev.congr (fun k => ?_) (eqEdits_l a b hl a [] b rfl rfl h)
  unfold dioramaref00_EqEdits.f
  rw [if_pos (by omega)]; rfl
 ·rw [decide_eq_false (fun e => h (by rw [e]))]
  refine Ev.congr (fun k => ?_) (Ev.now _)
  unfold dioramaref00_EqEdits.f
  rw [if_neg (by omega)]
theorem eq_f (a : List Ed) (e : Int) (hl : a.length ≤ 1000000) : Ev (fun k => dioramalaw10_eq.f k a e a e) true := by
 have h := eqEdits_f a a hl
 rw [decide_eq_true rfl] at h
 refine Ev.congr (fun k => rfl) (Ev.bind h ?_)
 refine Ev.congr (fun k => if_pos rfl) ?_
 rw [show (e == e) = true by simp]
 exact Ev.now _
end Go.Proofs.Ytpbhepdgamoiaaa.Qe
namespace Go.Proofs.Ytpbhepdgamoiaaa.Fr
open Go.RowKit Go Go.Proofs.YtpbhepdgamoiaaaW.PrintWords Go.Proofs.YtpbhepdgamoiaaaW.PrintLast Go.Proofs.YtpbhepdgamoiaaaW.PrintMore Go.Proofs.Ytpbhepdgamoiaaa.Mn Go.Proofs.Ytpbhepdgamoiaaa.Rf Go.Proofs.Ytpbhepdgamoiaaa.Er Go.Proofs.Ytpbhepdgamoiaaa.Ek Go.Proofs.Ytpbhepdgamoiaaa.E Go.Proofs.Ytpbhepdgamoiaaa.Pe Go.Proofs.Ytpbhepdgamoiaaa.Pf Go.Proofs.Ytpbhepdgamoiaaa.Pg Go.Proofs.Ytpbhepdgamoiaaa.Qr Go.Proofs.Ytpbhepdgamoiaaa.Qn Go.Proofs.Ytpbhepdgamoiaaa.Qo Go.Proofs.Ytpbhepdgamoiaaa.Qp Go.Proofs.Ytpbhepdgamoiaaa.Qe Go.Proofs.Ytpbhepdgamoiaaa.Qw Go.Proofs.Ytpbhepdgamoiaaa.Oe
set_option linter.unusedVariables false
set_option linter.unusedSimpArgs false
structure Rt (num den : Int) : Prop where
 n0 : 1 ≤ num
 n1 : num ≤ 1000
 d0 : 1 ≤ den
 d1 : den ≤ 1000
theorem nrmV_len (ms ts : Int) (l : List Ed) : (nrmV ms ts l).1.length ≤ 20 := by
 unfold nrmV fin
 split
 ·simp
 ·split
  ·simp
  ·simp only [List.length_reverse]; omega
end Go.Proofs.Ytpbhepdgamoiaaa.Fr
namespace Go.Proofs.Ytpbhepdgamoiaaa.Cl
open Go.RowKit Go Go.Proofs.YtpbhepdgamoiaaaW.PrintWords Go.Proofs.YtpbhepdgamoiaaaW.PrintLast Go.Proofs.YtpbhepdgamoiaaaW.PrintMore Go.Proofs.Ytpbhepdgamoiaaa.Mn Go.Proofs.Ytpbhepdgamoiaaa.Rf Go.Proofs.Ytpbhepdgamoiaaa.Er Go.Proofs.Ytpbhepdgamoiaaa.Ek Go.Proofs.Ytpbhepdgamoiaaa.Ew Go.Proofs.Ytpbhepdgamoiaaa.E Go.Proofs.Ytpbhepdgamoiaaa.Pe Go.Proofs.Ytpbhepdgamoiaaa.Pf Go.Proofs.Ytpbhepdgamoiaaa.Pg Go.Proofs.Ytpbhepdgamoiaaa.Qr Go.Proofs.Ytpbhepdgamoiaaa.Qn Go.Proofs.Ytpbhepdgamoiaaa.Qo Go.Proofs.Ytpbhepdgamoiaaa.Qp Go.Proofs.Ytpbhepdgamoiaaa.Qe Go.Proofs.Ytpbhepdgamoiaaa.Qw Go.Proofs.Ytpbhepdgamoiaaa.Oe Go.Proofs.Ytpbhepdgamoiaaa.Fr
set_option linter.unusedVariables false
set_option linter.unusedSimpArgs false
def scB (a : Int) : Bool := decide (1 ≤ a) && decide (a ≤ 1000000)
theorem scale_f (a : Int) : edit_isScale.f a = some (scB a) := by
 unfold edit_isScale.f scB
 by_cases h : a ≥ 1
 ·rw [if_pos h, decide_eq_true (show 1 ≤ a from h), Bool.true_and]
 ·rw [if_neg h, decide_eq_false (show ¬ 1 ≤ a from h), Bool.false_and]
theorem rscale_f (a : Int) : dioramaref10_isScale.f a = some (scB a) := scale_f a
end Go.Proofs.Ytpbhepdgamoiaaa.Cl
namespace Go.Proofs.Ytpbhepdgamoiaaa.So
open Go.RowKit Go Go.Proofs.Ytpbhepdgamoiaaa.Rf Go.Proofs.Ytpbhepdgamoiaaa.Er Go.Proofs.Ytpbhepdgamoiaaa.Ek Go.Proofs.Ytpbhepdgamoiaaa.Et Go.Proofs.Ytpbhepdgamoiaaa.Ew Go.Proofs.Ytpbhepdgamoiaaa.E Go.Proofs.Ytpbhepdgamoiaaa.Pe Go.Proofs.Ytpbhepdgamoiaaa.Pf Go.Proofs.Ytpbhepdgamoiaaa.Qr Go.Proofs.Ytpbhepdgamoiaaa.Qn Go.Proofs.Ytpbhepdgamoiaaa.Qw Go.Proofs.Ytpbhepdgamoiaaa.Fr Go.Proofs.Ytpbhepdgamoiaaa.Cl Go.Proofs.Ytpbhepdgamoiaaa.Nm
set_option linter.unusedVariables false
set_option linter.unusedSimpArgs false
end Go.Proofs.Ytpbhepdgamoiaaa.So
namespace Go.Proofs.Ytpbhepdgamoiaaa.Sw
open Go.RowKit Go Go.Proofs.Ytpbhepdgamoiaaa.Rf Go.Proofs.Ytpbhepdgamoiaaa.Er Go.Proofs.Ytpbhepdgamoiaaa.Ek Go.Proofs.Ytpbhepdgamoiaaa.Et Go.Proofs.Ytpbhepdgamoiaaa.E Go.Proofs.Ytpbhepdgamoiaaa.Pe Go.Proofs.Ytpbhepdgamoiaaa.Pf Go.Proofs.Ytpbhepdgamoiaaa.Nm
set_option linter.unusedVariables false
set_option linter.unusedSimpArgs false
end Go.Proofs.Ytpbhepdgamoiaaa.Sw
namespace Go.Proofs.Ytpbhepdgamoiaaa.Ct
open Go.RowKit Go Go.Proofs.YtpbhepdgamoiaaaW.PrintWords Go.Proofs.YtpbhepdgamoiaaaW.PrintLast Go.Proofs.YtpbhepdgamoiaaaW.PrintMore Go.Proofs.Ytpbhepdgamoiaaa.Mn Go.Proofs.Ytpbhepdgamoiaaa.Rf Go.Proofs.Ytpbhepdgamoiaaa.Er Go.Proofs.Ytpbhepdgamoiaaa.Ek Go.Proofs.Ytpbhepdgamoiaaa.Et Go.Proofs.Ytpbhepdgamoiaaa.Ew Go.Proofs.Ytpbhepdgamoiaaa.E Go.Proofs.Ytpbhepdgamoiaaa.Pe Go.Proofs.Ytpbhepdgamoiaaa.Pf Go.Proofs.Ytpbhepdgamoiaaa.Pg Go.Proofs.Ytpbhepdgamoiaaa.Qr Go.Proofs.Ytpbhepdgamoiaaa.Qn Go.Proofs.Ytpbhepdgamoiaaa.Qw Go.Proofs.Ytpbhepdgamoiaaa.Fr Go.Proofs.Ytpbhepdgamoiaaa.Cl Go.Proofs.Ytpbhepdgamoiaaa.Nm Go.Proofs.Ytpbhepdgamoiaaa.So Go.Proofs.Ytpbhepdgamoiaaa.Sw
set_option linter.unusedVariables false
set_option linter.unusedSimpArgs false
def cutOk (fr te : Int) : Prop := (0 ≤ fr ∧ fr ≤ 1099511627776) ∧ (0 ≤ te ∧ te ≤ 1099511627776) ∧ fr ≤ te
instance (fr te : Int) : Decidable (cutOk fr te) := inferInstanceAs (Decidable (_ ∧ _))
end Go.Proofs.Ytpbhepdgamoiaaa.Ct
namespace Go.Proofs.Ytpbhepdgamoiaaa.Jn
open Go.RowKit Go Go.Proofs.YtpbhepdgamoiaaaW.PrintWords Go.Proofs.YtpbhepdgamoiaaaW.PrintLast Go.Proofs.YtpbhepdgamoiaaaW.PrintMore Go.Proofs.Ytpbhepdgamoiaaa.Mn Go.Proofs.Ytpbhepdgamoiaaa.Nd Go.Proofs.Ytpbhepdgamoiaaa.Z Go.Proofs.Ytpbhepdgamoiaaa.Rf Go.Proofs.Ytpbhepdgamoiaaa.Er Go.Proofs.Ytpbhepdgamoiaaa.Ek Go.Proofs.Ytpbhepdgamoiaaa.Et Go.Proofs.Ytpbhepdgamoiaaa.E Go.Proofs.Ytpbhepdgamoiaaa.Pe Go.Proofs.Ytpbhepdgamoiaaa.Pf Go.Proofs.Ytpbhepdgamoiaaa.Ct
set_option linter.unusedVariables false
set_option linter.unusedSimpArgs false
def LP (w : World) (l : List Ed) (e : Ending) (w' : World) : Prop := ∃ v, e = .returned v ∧ Kd.R k77 77 w' w.heap.size (fun _ => True) v l ∧ Below w.heap.size w w'
set_option maxHeartbeats 4000000 in
set_option maxRecDepth 100000 in
theorem grow_n (n : Int) (w : World) (h0 : 0 ≤ n) (h1 : n ≤ 1000) :
  Calls Try.prog 136 #[.slice none 0 0, .int .i64 n] w (LP w []) := by
 have HN := Aside0.mk (And.intro h0 h1)
 have hn0 : decide (n < 0) = false := decide_eq_false (by omega)
 have hw0 : wrap64 (n - 0) = n := by rw [Int.sub_zero]; exact w64 (by omega) (by omega)
 by_cases hn : n > 0
 ·have hnb : decide (n > 0) = true := decide_eq_true hn
  go_enter Try.func136, Try.ntmps136
  go_wp2_with (first | ((with_reducible refine gate_builtin (b := .append) (xs := #[.tmp 20, .tmp 21]) rfl ?_); at_builtin; refine Kd.R_append_zeros k77 (w0 := w) w.heap.size rfl (.tmp 20) (.tmp 21) 22 3 77 (.agg #[(.int .i64 0), (.int .i64 0), (.int .i64 0), (.int .i64 0)]) 32 rfl Try.underlying22 Try.underlying3 info77 rfl (by decide) (by omega) (.slice none 0 0) [] z77 n (fun _ => True) rfl rfl (k77_mkM _ _ _ z77) (fun _ _ => trivial) (Kd.R_nil _ _ _ _ _) HN.out.1 (Below.refl _ _) (Nat.le_refl _) (by have := HN.out; simp only [List.length_nil]; omega) ?_; intro v1 w1 ho hb hg hat; obtain ⟨A1, c1, e1⟩ := Kd.R_slice ho; subst e1; have HO := Aside0.mk (And.intro ho hb); clear ho hb hg hat))
  go_ret
  refine ⟨_, rfl, ?_, HO.out.2⟩
  have := Kd.R_take (m := 0) HO.out.1 (Nat.zero_le _)
  simpa using this
 ·have hnb : decide (n > 0) = false := decide_eq_false hn
  go_enter Try.func136, Try.ntmps136
  go_wp2_with fail
  go_ret
  exact ⟨_, rfl, Kd.R_nil _ _ _ _ _, Below.refl _ _⟩
set_option maxHeartbeats 8000000 in
set_option maxRecDepth 100000 in
theorem concat_n (g : Nat) (A0 A1 : Option Addr) (c0 c1 : Nat) (l0 l1 : List Ed) (w : World) (hg : w.heap[g]? = some (.cells #[.slice A0 l0.length c0, .slice A1 l1.length c1] 22 (0, 0))) (h0 : Kd.C k77 w A0 l0.length l0) (h1 : Kd.C k77 w A1 l1.length l1) (hl0 : l0.length ≤ 400) (hl1 : l1.length ≤ 400) :
  Calls Try.prog 95 #[.slice (some ⟨g, 0, none⟩) 2 2] w (LP w (l0 ++ l1)) := by
 have HG := Aside0.mk (And.intro hg (And.intro h0 h1))
 have HL := Aside0.mk (And.intro hl0 hl1)
 have hwa : wrap64 (l0.length : Int) = l0.length := w64 (by omega) (by omega)
 have hwb : wrap64 ((l0.length : Int) + (l1.length : Int)) = (l0.length : Int) + l1.length := w64 (by omega) (by omega)
 have hna : decide (wrap64 (l0.length : Int) < 0) = false := decide_eq_false (by rw [hwa]; omega)
 have hnb : decide (wrap64 ((l0.length : Int) + (l1.length : Int)) < 0) = false := decide_eq_false (by rw [hwb]; omega)
 clear hg h0 h1 hl0 hl1
 go_enter Try.func95, Try.ntmps95
 go_wp2_with fail
 go_loopg [3, 11] 2 (fun kq v3 v11 w' => ∃ i s : Int, v3 = .int .i64 s ∧ v11 = .int .i64 i ∧ Aside0 (Below w.heap.size w w') ∧ Aside0 ((i = 0 ∧ s = 0 ∧ kq = 2) ∨ (i = 1 ∧ s = l0.length ∧ kq = 1) ∨ (i = 2 ∧ s = (l0.length : Int) + l1.length ∧ kq = 0)))
 case atStart => exact ⟨0, 0, rfl, rfl, ⟨Below.refl _ _⟩, ⟨.inl ⟨rfl, rfl, rfl⟩⟩⟩
 case round =>
  obtain ⟨i, s, rfl, rfl, HB, hi⟩ := hrel
  have hg1 := blk_below HG.out.1 HB.out
  rcases hi.out with ⟨rfl, rfl, rfl⟩ | ⟨rfl, rfl, rfl⟩ | ⟨rfl, rfl, rfl⟩
  ·have q0 : wr.cell? ⟨g, 0, none⟩ = some (.slice A0 l0.length c0) := (blk_cell hg1 0).trans rfl
   clear hg1 hi
   go_wp2_with fail
   go_roundg 1
   case measure => omega
   case rel => exact ⟨1, l0.length, by first | rfl | (rw [hwa]), by first | rfl | decide, ⟨HB.out⟩, ⟨.inr (.inl ⟨rfl, rfl, rfl⟩)⟩⟩
  ·have q0 : wr.cell? ⟨g, 1, none⟩ = some (.slice A1 l1.length c1) := (blk_cell hg1 1).trans rfl
   clear hg1 hi
   go_wp2_with fail
   go_roundg 0
   case measure => omega
   case rel => exact ⟨2, (l0.length : Int) + l1.length, by first | rfl | (rw [hwb]), by first | rfl | decide, ⟨HB.out⟩, ⟨.inr (.inr ⟨rfl, rfl, rfl⟩)⟩⟩
  ·clear hg1 hi
   go_wp2_with fail
   refine (grow_n ((l0.length : Int) + l1.length) wr (by omega) (by have := HL.out; omega)).mono ?_
   rintro e w2 ⟨v, rfl, hr2, hb2⟩
   have HB1 := Aside0.mk (HB.out.trans (hb2.mono HB.out.size))
   have HO1 := Aside0.mk (Kd.R_lower hr2 HB.out.size)
   clear hr2 hb2 HB
   go_wp2_with fail
   go_loopg [6, 27] 2 (fun kq v6 v27 w' => ∃ (i : Int) (x : List Ed), v27 = .int .i64 i ∧ Aside0 (Below w.heap.size w w') ∧ Aside0 (Kd.R k77 77 w' w.heap.size (fun _ => True) v6 x) ∧ Aside0 ((i = 0 ∧ x = [] ∧ kq = 2) ∨ (i = 1 ∧ x = l0 ∧ kq = 1) ∨ (i = 2 ∧ x = l0 ++ l1 ∧ kq = 0)))
   case atStart => exact ⟨0, [], rfl, ⟨HB1.out⟩, ⟨HO1.out⟩, ⟨.inl ⟨rfl, rfl, rfl⟩⟩⟩
   case round =>
    clear HB1 HO1
    obtain ⟨i, x, rfl, HB, HO, hi⟩ := hrel
    have hg1 := blk_below HG.out.1 HB.out
    rcases hi.out with ⟨rfl, rfl, rfl⟩ | ⟨rfl, rfl, rfl⟩ | ⟨rfl, rfl, rfl⟩
    ·have q0 : wr.cell? ⟨g, 0, none⟩ = some (.slice A0 l0.length c0) := (blk_cell hg1 0).trans rfl
     clear hg1 hi
     go_wp2_with (first | ((with_reducible refine gate_builtin (b := .append) (xs := #[.tmp 31, .tmp 32]) rfl ?_); at_builtin; refine Kd.R_append_rows k77 (w0 := w) w.heap.size rfl (.tmp 31) (.tmp 32) 22 77 (.agg #[(.int .i64 0), (.int .i64 0), (.int .i64 0), (.int .i64 0)]) 32 rfl Try.underlying22 info77 rfl (by decide) (by omega) u6 [] l0 _ _ _ (fun _ => True) (fun _ => False) rfl rfl HO.out (Kd.C_below HG.out.2.1 HB.out) (fun _ _ h => h) (fun _ h => h.elim) (fun _ _ => trivial) HB.out HB.out.size (by have := HL.out; (try simp only [List.length_nil]); omega) ?_; intro v6' w9 ho hb hg hat; have HO2 := Aside0.mk ho; have HB2 := Aside0.mk hb; clear ho hb hg hat))
     go_roundg 1
     case measure => omega
     case rel => exact ⟨1, l0, by first | rfl | decide, ⟨HB2.out⟩, ⟨HO2.out⟩, ⟨.inr (.inl ⟨rfl, rfl, rfl⟩)⟩⟩
    ·have q0 : wr.cell? ⟨g, 1, none⟩ = some (.slice A1 l1.length c1) := (blk_cell hg1 1).trans rfl
     clear hg1 hi
     go_wp2_with (first | ((with_reducible refine gate_builtin (b := .append) (xs := #[.tmp 31, .tmp 32]) rfl ?_); at_builtin; refine Kd.R_append_rows k77 (w0 := w) w.heap.size rfl (.tmp 31) (.tmp 32) 22 77 (.agg #[(.int .i64 0), (.int .i64 0), (.int .i64 0), (.int .i64 0)]) 32 rfl Try.underlying22 info77 rfl (by decide) (by omega) u6 x l1 _ _ _ (fun _ => True) (fun _ => False) rfl rfl HO.out (Kd.C_below HG.out.2.2 HB.out) (fun _ _ h => h) (fun _ h => h.elim) (fun _ _ => trivial) HB.out HB.out.size (by have := HL.out; (try simp only [List.length_nil]); omega) ?_; intro v6' w9 ho hb hg hat; have HO2 := Aside0.mk ho; have HB2 := Aside0.mk hb; clear ho hb hg hat))
     go_roundg 0
     case measure => omega
     case rel => exact ⟨2, x ++ l1, by first | rfl | decide, ⟨HB2.out⟩, ⟨HO2.out⟩, ⟨.inr (.inr ⟨rfl, rfl, rfl⟩)⟩⟩
    ·clear hg1 hi
     go_wp2_with fail
     go_ret
     exact ⟨_, rfl, HO.out, HB.out⟩
def TP (w : World) (r : List Ed × Int) (e : Ending) (w' : World) : Prop := ∃ v, e = .returned (.tuple #[v, .int .i64 r.2]) ∧ Kd.R k77 77 w' w.heap.size (fun _ => True) v r.1 ∧ Below w.heap.size w w'
theorem TP.below {w w1 : World} {r : List Ed × Int} {e : Ending} {w' : World} (h : TP w1 r e w') (hb : Below w.heap.size w w1) : TP w r e w' := by
 obtain ⟨v, he, hr, hb2⟩ := h
 exact ⟨v, he, Kd.R_lower hr hb.size, hb.trans (hb2.mono hb.size)⟩
theorem normal_n {ms ts : Int} (hc : Ck ms ts) (A : Option Addr) (c : Nat) (l : List Ed) (hV : ∀ x ∈ l, Vd x) (hl : l.length ≤ 1000000000) (w : World) (hr : Kd.C k77 w A l.length l) (hcc : l.length ≤ c) :
  Calls Try.prog 57 #[.agg #[.int .i64 ms, .int .i64 ts], .slice A l.length c] w (TP w (nrmV ms ts l)) := by
 obtain ⟨k, hk⟩ := (normal_f hc l hV hl).rounds
 exact edit_clocks_normal.calls k ms ts A c l _ _ w hr hcc hk
def joinV (ms ts : Int) (a b : List Ed) : List Ed × Int := if chk a ms ts = 0 then (if chk b ms ts = 0 then nrmV ms ts (a ++ b) else ([], chk b ms ts)) else ([], chk a ms ts)
set_option maxHeartbeats 8000000 in
set_option maxRecDepth 100000 in
theorem join_n (A0 A1 : Option Addr) (c0 c1 : Nat) (l0 l1 : List Ed) (ms ts : Int) (w : World) (h0 : Kd.C k77 w A0 l0.length l0) (hc0 : l0.length ≤ c0) (h1 : Kd.C k77 w A1 l1.length l1) (hc1 : l1.length ≤ c1) :
  Calls Try.prog 48 #[.slice A0 l0.length c0, .slice A1 l1.length c1, .int .i64 ms, .int .i64 ts] w (TP w (joinV ms ts l0 l1)) := by
 have hu := Try.underlying79
 have hu2 := Try.underlying115
 have HG := Aside0.mk (And.intro (And.intro h0 hc0) (And.intro h1 hc1))
 have HV := Aside0.mk (show joinV ms ts l0 l1 = if chk l0 ms ts = 0 then (if chk l1 ms ts = 0 then nrmV ms ts (l0 ++ l1) else ([], chk l1 ms ts)) else ([], chk l0 ms ts) from rfl)
 have HK := Aside0.mk (show chk l0 ms ts = 0 → chk l1 ms ts = 0 → Ck ms ts ∧ (∀ x ∈ l0 ++ l1, Vd x) ∧ l0.length ≤ 20 ∧ l1.length ≤ 20 by
  intro e1 e2
  obtain ⟨a1, a2, a3, a4⟩ := chk_ok.1 e1
  obtain ⟨b1, b2, b3, b4⟩ := chk_ok.1 e2
  exact ⟨a1, fun x hx => (List.mem_append.1 hx).elim (a3 x) (b3 x), a2, b2⟩)
 generalize joinV ms ts l0 l1 = V at *
 clear h0 hc0 h1 hc1
 go_enter Try.func48, Try.ntmps48
 go_wp2_with fail
 have hst := Aside0.mk (And.intro (blk_new w (.cells #[.slice A0 l0.length c0, .slice A1 l1.length c1] 22 (0, 0))) (below_alloc (Below.refl w.heap.size w) (.cells #[.slice A0 l0.length c0, .slice A1 l1.length c1] 22 (0, 0))))
 go_loopg [17] 2 (fun kq v17 w' => ∃ i : Int, v17 = .int .i64 i ∧ Aside0 (w'.heap[w.heap.size]? = some (.cells #[.slice A0 l0.length c0, .slice A1 l1.length c1] 22 (0, 0)) ∧ Below w.heap.size w w') ∧ Aside0 ((i = 0 ∧ kq = 2) ∨ (i = 1 ∧ chk l0 ms ts = 0 ∧ kq = 1) ∨ (i = 2 ∧ chk l0 ms ts = 0 ∧ chk l1 ms ts = 0 ∧ kq = 0)))
 case atStart => exact ⟨0, rfl, ⟨hst.out⟩, ⟨.inl ⟨rfl, rfl⟩⟩⟩
 case round =>
  clear hst
  obtain ⟨i, rfl, HB, hi⟩ := hrel
  rcases hi.out with ⟨rfl, rfl⟩ | ⟨rfl, e1, rfl⟩ | ⟨rfl, e1, e2, rfl⟩
  ·have q0 : wr.cell? ⟨w.heap.size, 0, none⟩ = some (.slice A0 l0.length c0) := (blk_cell HB.out.1 0).trans rfl
   clear hi
   go_wp2_with fail
   refine (check_n A0 c0 l0 ms ts wr (Kd.C_below HG.out.1.1 HB.out.2) HG.out.1.2).mono ?_
   rintro e w2 ⟨rfl, hb2⟩
   have HB2 := Aside0.mk (And.intro (blk_below HB.out.1 hb2) (HB.out.2.trans (hb2.mono HB.out.2.size)))
   clear hb2 HB q0
   by_cases hz : chk l0 ms ts = 0
   ·have HZ := Aside0.mk hz
    rw [hz]
    clear hz
    go_wp2_with fail
    go_roundg 1
    case measure => omega
    case rel => exact ⟨1, by first | rfl | decide, ⟨HB2.out⟩, ⟨.inr (.inl ⟨rfl, HZ.out, rfl⟩)⟩⟩
   ·have HV2 := Aside0.mk (show V = ([], chk l0 ms ts) by rw [HV.out, if_neg hz])
    clear HV HK
    generalize chk l0 ms ts = C at *
    go_wp2_with fail
    go_ret2
    rw [HV2.out]
    exact ⟨_, rfl, Kd.R_nil _ _ _ _ _, HB2.out.2⟩
  ·have q0 : wr.cell? ⟨w.heap.size, 1, none⟩ = some (.slice A1 l1.length c1) := (blk_cell HB.out.1 1).trans rfl
   have E1 := Aside0.mk e1
   clear hi e1
   go_wp2_with fail
   refine (check_n A1 c1 l1 ms ts wr (Kd.C_below HG.out.2.1 HB.out.2) HG.out.2.2).mono ?_
   rintro e w2 ⟨rfl, hb2⟩
   have HB2 := Aside0.mk (And.intro (blk_below HB.out.1 hb2) (HB.out.2.trans (hb2.mono HB.out.2.size)))
   clear hb2 HB q0
   by_cases hz : chk l1 ms ts = 0
   ·have HZ := Aside0.mk hz
    rw [hz]
    clear hz
    go_wp2_with fail
    go_roundg 0
    case measure => omega
    case rel => exact ⟨2, by first | rfl | decide, ⟨HB2.out⟩, ⟨.inr (.inr ⟨rfl, E1.out, HZ.out, rfl⟩)⟩⟩
   ·have HV2 := Aside0.mk (show V = ([], chk l1 ms ts) by rw [HV.out, if_pos E1.out, if_neg hz])
    clear HV HK E1
    generalize chk l1 ms ts = C at *
    go_wp2_with fail
    go_ret2
    rw [HV2.out]
    exact ⟨_, rfl, Kd.R_nil _ _ _ _ _, HB2.out.2⟩
  ·have HV2 := Aside0.mk (show V = nrmV ms ts (l0 ++ l1) by rw [HV.out, if_pos e1, if_pos e2])
   have HQ := Aside0.mk (HK.out e1 e2)
   clear HV HK hi e1 e2
   have hg2 := Aside0.mk (blk_new wr (.cells #[.slice A0 l0.length c0, .slice A1 l1.length c1] 22 (0, 0)))
   have hb2 := Aside0.mk (HB.out.2.trans ((below_alloc (Below.refl wr.heap.size wr) (.cells #[.slice A0 l0.length c0, .slice A1 l1.length c1] 22 (0, 0))).mono HB.out.2.size))
   go_wp2_with fail
   refine (concat_n wr.heap.size A0 A1 c0 c1 l0 l1 _ hg2.out (Kd.C_below HG.out.1.1 hb2.out) (Kd.C_below HG.out.2.1 hb2.out) (by have := HQ.out.2.2.1; omega) (by have := HQ.out.2.2.2; omega)).mono ?_
   rintro e w3 ⟨v, rfl, hr3, hb3⟩
   have HB3 := Aside0.mk (And.intro hr3 (hb2.out.trans (hb3.mono hb2.out.size)))
   obtain ⟨A3, c3, rfl⟩ := Kd.R_slice hr3
   have HQ2 := Aside0.mk (And.intro HQ.out.1 (And.intro HQ.out.2.1 (show (l0 ++ l1).length ≤ 1000000000 by have := HQ.out.2.2; simp only [List.length_append]; omega)))
   clear hr3 hb3 hg2 hb2 HB HQ
   generalize l0 ++ l1 = L at *
   go_wp2_with fail
   refine (normal_n HQ2.out.1 A3 c3 L HQ2.out.2.1 HQ2.out.2.2 w3 (Kd.R_reads' HB3.out.1).2.2 (Kd.R_reads' HB3.out.1).2.1).mono ?_
   rintro e w4 ⟨v4, rfl, hr4, hb4⟩
   have H4 := Aside0.mk (And.intro (Kd.R_lower hr4 HB3.out.2.size) (HB3.out.2.trans (hb4.mono HB3.out.2.size)))
   obtain ⟨A4, c4, rfl⟩ := Kd.R_slice hr4
   clear hr4 hb4
   rw [← HV2.out] at H4 ⊢
   go_wp2_with fail
   go_ret2
   exact ⟨_, rfl, H4.out.1, H4.out.2⟩
structure Dx (w W : World) (ms ts : Int) (g : Nat) : Prop where
 c : W.heap[g]? = some (clO ms ts)
 below : Below w.heap.size w W
theorem Dx.step {w W W2 : World} {ms ts : Int} {g : Nat} (h : Dx w W ms ts g) (hb : Below W.heap.size W W2) : Dx w W2 ms ts g := ⟨blk_below h.c hb, h.below.trans (hb.mono h.below.size)⟩
theorem Dx.start {w W : World} (ms ts : Int) (h : Below w.heap.size w W) : Dx w (W.alloc (clO ms ts)) ms ts W.heap.size := ⟨blk_new W _, h.trans ((below_alloc (Below.refl W.heap.size W) _).mono h.size)⟩
end Go.Proofs.Ytpbhepdgamoiaaa.Jn
namespace Go.Proofs.Ytpbhepdgamoiaaa.E
open Go.RowKit Go Go.Proofs.YtpbhepdgamoiaaaW.PrintWords Go.Proofs.YtpbhepdgamoiaaaW.PrintLast Go.Proofs.YtpbhepdgamoiaaaW.PrintMore Go.Proofs.Ytpbhepdgamoiaaa.Pe Go.Proofs.Ytpbhepdgamoiaaa.Jn
def edit_Join.f (l0 : List (S77)) (l1 : List (S77)) (a2 : Int) (a3 : Int) : Option ((List (S77)) × Int) := some (joinV a2 a3 l0 l1)
theorem edit_Join.calls (A0 : Option Addr) (c0 : Nat) (l0 : List (S77)) (A1 : Option Addr) (c1 : Nat) (l1 : List (S77)) (a2 : Int) (a3 : Int) (r1 : List (S77)) (r2 : Int) (w : World) (hr0 : Kd.C k77 w A0 l0.length l0) (hc0 : l0.length ≤ c0) (hr1 : Kd.C k77 w A1 l1.length l1) (hc1 : l1.length ≤ c1) (h : edit_Join.f l0 l1 a2 a3 = some (r1, r2)) :
  Calls Try.prog 48 #[.slice A0 l0.length c0, .slice A1 l1.length c1, .int .i64 a2, .int .i64 a3] w fun e w' => ∃ v0_ : Value, e = .returned (.tuple #[v0_, .int .i64 r2]) ∧ Kd.R k77 77 w' w.heap.size (fun _ => True) v0_ r1 ∧ Below w.heap.size w w' := by
 have hV : joinV a2 a3 l0 l1 = (r1, r2) := Option.some.inj h
 have := join_n A0 A1 c0 c1 l0 l1 a2 a3 w hr0 hc0 hr1 hc1
 rw [hV] at this
 exact this
end Go.Proofs.Ytpbhepdgamoiaaa.E
namespace Go.Proofs.Ytpbhepdgamoiaaa.Rct
open Go.RowKit Go Go.Proofs.YtpbhepdgamoiaaaW.PrintWords Go.Proofs.YtpbhepdgamoiaaaW.PrintLast Go.Proofs.YtpbhepdgamoiaaaW.PrintMore Go.Proofs.Ytpbhepdgamoiaaa.Mn Go.Proofs.Ytpbhepdgamoiaaa.Rf Go.Proofs.Ytpbhepdgamoiaaa.Er Go.Proofs.Ytpbhepdgamoiaaa.Ek Go.Proofs.Ytpbhepdgamoiaaa.Et Go.Proofs.Ytpbhepdgamoiaaa.Ew Go.Proofs.Ytpbhepdgamoiaaa.E Go.Proofs.Ytpbhepdgamoiaaa.Pe Go.Proofs.Ytpbhepdgamoiaaa.Pf Go.Proofs.Ytpbhepdgamoiaaa.Pg Go.Proofs.Ytpbhepdgamoiaaa.Qr Go.Proofs.Ytpbhepdgamoiaaa.Qn Go.Proofs.Ytpbhepdgamoiaaa.Qo Go.Proofs.Ytpbhepdgamoiaaa.Qp Go.Proofs.Ytpbhepdgamoiaaa.Qw Go.Proofs.Ytpbhepdgamoiaaa.Fr Go.Proofs.Ytpbhepdgamoiaaa.Cl Go.Proofs.Ytpbhepdgamoiaaa.Nm Go.Proofs.Ytpbhepdgamoiaaa.So Go.Proofs.Ytpbhepdgamoiaaa.Ct
set_option linter.unusedVariables false
set_option linter.unusedSimpArgs false
end Go.Proofs.Ytpbhepdgamoiaaa.Rct
namespace Go.Proofs.Ytpbhepdgamoiaaa.Jr
open Go.RowKit Go Go.Proofs.YtpbhepdgamoiaaaW.PrintWords Go.Proofs.YtpbhepdgamoiaaaW.PrintLast Go.Proofs.YtpbhepdgamoiaaaW.PrintMore Go.Proofs.Ytpbhepdgamoiaaa.Mn Go.Proofs.Ytpbhepdgamoiaaa.Nd Go.Proofs.Ytpbhepdgamoiaaa.Z Go.Proofs.Ytpbhepdgamoiaaa.Rf Go.Proofs.Ytpbhepdgamoiaaa.Er Go.Proofs.Ytpbhepdgamoiaaa.Ek Go.Proofs.Ytpbhepdgamoiaaa.Et Go.Proofs.Ytpbhepdgamoiaaa.E Go.Proofs.Ytpbhepdgamoiaaa.Pe Go.Proofs.Ytpbhepdgamoiaaa.Pf Go.Proofs.Ytpbhepdgamoiaaa.Qo Go.Proofs.Ytpbhepdgamoiaaa.Qp Go.Proofs.Ytpbhepdgamoiaaa.Ct Go.Proofs.Ytpbhepdgamoiaaa.Jn Go.Proofs.Ytpbhepdgamoiaaa.Rct
set_option linter.unusedVariables false
set_option linter.unusedSimpArgs false
theorem rchk_n (A : Option Addr) (c : Nat) (l : List Ed) (ms ts : Int) (w : World) (hr : Kd.C k77 w A l.length l) (hc : l.length ≤ c) :
  Calls Try.prog 25 #[.slice A l.length c, .int .i64 ms, .int .i64 ts] w (ValP w (.int .i64 (chk l ms ts))) := by
 obtain ⟨k, hk⟩ := (rcheck_f l ms ts).rounds
 exact dioramaref10_Check.calls k A c l ms ts _ w hr hc hk
theorem told_n {ms ts : Int} (hc : Ck ms ts) (A : Option Addr) (c : Nat) (l : List Ed) (hV : ∀ x ∈ l, Vd x) (hl : l.length ≤ 10000) (w : World) (hr : Kd.C k77 w A l.length l) (hcc : l.length ≤ c) :
  Calls Try.prog 58 #[.slice A l.length c, .int .i64 ms, .int .i64 ts] w (TP w (nrmV ms ts l)) := by
 obtain ⟨k, hk⟩ := (told_f hc l hV hl).rounds
 exact dioramaref10_told.calls k A c l ms ts _ _ w hr hcc hk
set_option maxHeartbeats 8000000 in
set_option maxRecDepth 100000 in
theorem rjoin_n (A0 A1 : Option Addr) (c0 c1 : Nat) (l0 l1 : List Ed) (ms ts : Int) (w : World) (h0 : Kd.C k77 w A0 l0.length l0) (hc0 : l0.length ≤ c0) (h1 : Kd.C k77 w A1 l1.length l1) (hc1 : l1.length ≤ c1) :
  Calls Try.prog 49 #[.slice A0 l0.length c0, .slice A1 l1.length c1, .int .i64 ms, .int .i64 ts] w (TP w (joinV ms ts l0 l1)) := by
 have HG := Aside0.mk (And.intro (And.intro h0 hc0) (And.intro h1 hc1))
 have HV := Aside0.mk (show joinV ms ts l0 l1 = if chk l0 ms ts = 0 then (if chk l1 ms ts = 0 then nrmV ms ts (l0 ++ l1) else ([], chk l1 ms ts)) else ([], chk l0 ms ts) from rfl)
 have HK := Aside0.mk (show chk l0 ms ts = 0 → chk l1 ms ts = 0 → Ck ms ts ∧ (∀ x ∈ l0 ++ l1, Vd x) ∧ l0.length ≤ 20 ∧ l1.length ≤ 20 by
  intro e1 e2
  obtain ⟨a1, a2, a3, a4⟩ := chk_ok.1 e1
  obtain ⟨b1, b2, b3, b4⟩ := chk_ok.1 e2
  exact ⟨a1, fun x hx => (List.mem_append.1 hx).elim (a3 x) (b3 x), a2, b2⟩)
 generalize joinV ms ts l0 l1 = V at *
 clear h0 hc0 h1 hc1
 go_enter Try.func49, Try.ntmps49
 go_wp2_with fail
 refine (rchk_n A0 c0 l0 ms ts w HG.out.1.1 HG.out.1.2).mono ?_
 rintro e w2 ⟨rfl, hb2⟩
 have HB2 := Aside0.mk hb2
 clear hb2
 by_cases hz : chk l0 ms ts = 0
 case neg =>
  have HV2 := Aside0.mk (show V = ([], chk l0 ms ts) by rw [HV.out, if_neg hz])
  clear HV HK
  generalize chk l0 ms ts = C at *
  go_wp2_with fail
  go_ret2
  rw [HV2.out]
  exact ⟨_, rfl, Kd.R_nil _ _ _ _ _, HB2.out⟩
 have E1 := Aside0.mk hz
 rw [hz]
 clear hz
 go_wp2_with fail
 refine (rchk_n A1 c1 l1 ms ts w2 (Kd.C_below HG.out.2.1 HB2.out) HG.out.2.2).mono ?_
 rintro e w3 ⟨rfl, hb3⟩
 have HB := Aside0.mk (HB2.out.trans (hb3.mono HB2.out.size))
 clear hb3 HB2
 by_cases hz : chk l1 ms ts = 0
 case neg =>
  have HV2 := Aside0.mk (show V = ([], chk l1 ms ts) by rw [HV.out, if_pos E1.out, if_neg hz])
  clear HV HK E1
  generalize chk l1 ms ts = C at *
  go_wp2_with fail
  go_ret2
  rw [HV2.out]
  exact ⟨_, rfl, Kd.R_nil _ _ _ _ _, HB.out⟩
 have HV2 := Aside0.mk (show V = nrmV ms ts (l0 ++ l1) by rw [HV.out, if_pos E1.out, if_pos hz])
 have HQ := Aside0.mk (HK.out E1.out hz)
 rw [hz]
 clear HV HK E1 hz
 go_wp2_with (first
  | ((with_reducible refine gate_builtin (b := .append) (xs := #[.const (.slice none 0 0), .tmp 25]) rfl ?_); at_builtin; refine Kd.R_append_rows k77 (w0 := w) w.heap.size rfl (.const (.slice none 0 0)) (.tmp 25) 22 77 (.agg #[(.int .i64 0), (.int .i64 0), (.int .i64 0), (.int .i64 0)]) 32 rfl Try.underlying22 info77 rfl (by decide) (by omega) (.slice none 0 0) [] l0 _ _ _ (fun _ => True) (fun _ => False) rfl rfl (Kd.R_nil _ _ _ _ _) (Kd.C_below HG.out.1.1 HB.out) (fun _ _ h => h) (fun _ h => h.elim) (fun _ _ => trivial) HB.out HB.out.size (by have := HQ.out.2.2.1; simp only [List.length_nil]; omega) ?_; intro v1 w5 ho hb hg hat; rw [List.nil_append] at ho; have HO5 := Aside0.mk ho; have HB5 := Aside0.mk hb; clear ho hb hg hat)
  | ((with_reducible refine gate_builtin (b := .append) (xs := #[.tmp 26, .tmp 27]) rfl ?_); at_builtin; refine Kd.R_append_rows k77 (w0 := w) w.heap.size rfl (.tmp 26) (.tmp 27) 22 77 (.agg #[(.int .i64 0), (.int .i64 0), (.int .i64 0), (.int .i64 0)]) 32 rfl Try.underlying22 info77 rfl (by decide) (by omega) v1 l0 l1 _ _ _ (fun _ => True) (fun _ => False) rfl rfl HO5.out (Kd.C_below HG.out.2.1 HB5.out) (fun _ _ h => h) (fun _ h => h.elim) (fun _ _ => trivial) HB5.out HB5.out.size (by have := HQ.out.2.2; omega) ?_; intro v2 w6 ho hb hg hat; obtain ⟨A6, c6, e6⟩ := Kd.R_slice ho; subst e6; have H6 := Aside0.mk (And.intro ho hb); have HQ2 := Aside0.mk (And.intro HQ.out.1 (And.intro HQ.out.2.1 (show (l0 ++ l1).length ≤ 10000 by have := HQ.out.2.2; simp only [List.length_append]; omega))); clear ho hb hg hat HQ; generalize l0 ++ l1 = L at *))
 refine (told_n HQ2.out.1 A6 c6 L HQ2.out.2.1 HQ2.out.2.2 w6 (Kd.R_reads' H6.out.1).2.2 (Kd.R_reads' H6.out.1).2.1).mono ?_
 rintro e w7 ⟨v7, rfl, hr7, hb7⟩
 have H7 := Aside0.mk (And.intro (Kd.R_lower hr7 H6.out.2.size) (H6.out.2.trans (hb7.mono H6.out.2.size)))
 obtain ⟨A7, c7, rfl⟩ := Kd.R_slice hr7
 clear hr7 hb7
 rw [← HV2.out] at H7 ⊢
 go_wp2_with fail
 go_ret2
 exact ⟨_, rfl, H7.out.1, H7.out.2⟩
end Go.Proofs.Ytpbhepdgamoiaaa.Jr
namespace Go.Proofs.Ytpbhepdgamoiaaa.E
open Go.RowKit Go Go.Proofs.YtpbhepdgamoiaaaW.PrintWords Go.Proofs.YtpbhepdgamoiaaaW.PrintLast Go.Proofs.YtpbhepdgamoiaaaW.PrintMore Go.Proofs.Ytpbhepdgamoiaaa.Pe Go.Proofs.Ytpbhepdgamoiaaa.Jn Go.Proofs.Ytpbhepdgamoiaaa.Jr
def dioramaref10_Join.f (l0 : List (S77)) (l1 : List (S77)) (a2 : Int) (a3 : Int) : Option ((List (S77)) × Int) := some (joinV a2 a3 l0 l1)
theorem dioramaref10_Join.calls (A0 : Option Addr) (c0 : Nat) (l0 : List (S77)) (A1 : Option Addr) (c1 : Nat) (l1 : List (S77)) (a2 : Int) (a3 : Int) (r1 : List (S77)) (r2 : Int) (w : World) (hr0 : Kd.C k77 w A0 l0.length l0) (hc0 : l0.length ≤ c0) (hr1 : Kd.C k77 w A1 l1.length l1) (hc1 : l1.length ≤ c1) (h : dioramaref10_Join.f l0 l1 a2 a3 = some (r1, r2)) :
  Calls Try.prog 49 #[.slice A0 l0.length c0, .slice A1 l1.length c1, .int .i64 a2, .int .i64 a3] w fun e w' => ∃ v0_ : Value, e = .returned (.tuple #[v0_, .int .i64 r2]) ∧ Kd.R k77 77 w' w.heap.size (fun _ => True) v0_ r1 ∧ Below w.heap.size w w' := by
 have hV : joinV a2 a3 l0 l1 = (r1, r2) := Option.some.inj h
 have := rjoin_n A0 A1 c0 c1 l0 l1 a2 a3 w hr0 hc0 hr1 hc1
 rw [hV] at this
 exact this
end Go.Proofs.Ytpbhepdgamoiaaa.E
namespace Go.Proofs.Ytpbhepdgamoiaaa.Rp
open Go.RowKit Go Go.Proofs.YtpbhepdgamoiaaaW.PrintWords Go.Proofs.YtpbhepdgamoiaaaW.PrintLast Go.Proofs.YtpbhepdgamoiaaaW.PrintMore Go.Proofs.Ytpbhepdgamoiaaa.Mn Go.Proofs.Ytpbhepdgamoiaaa.Nd Go.Proofs.Ytpbhepdgamoiaaa.Z Go.Proofs.Ytpbhepdgamoiaaa.Rf Go.Proofs.Ytpbhepdgamoiaaa.Er Go.Proofs.Ytpbhepdgamoiaaa.Ek Go.Proofs.Ytpbhepdgamoiaaa.Et Go.Proofs.Ytpbhepdgamoiaaa.E Go.Proofs.Ytpbhepdgamoiaaa.Pe Go.Proofs.Ytpbhepdgamoiaaa.Pf Go.Proofs.Ytpbhepdgamoiaaa.Ct Go.Proofs.Ytpbhepdgamoiaaa.Jn
set_option linter.unusedVariables false
set_option linter.unusedSimpArgs false
def encE (x : Ed) : List Value := [.int .i64 x.f0, .int .i64 x.f1, .int .i64 x.f2, .int .i64 x.f3]
def encL : List Ed → List Value
 | [] => []
 | x :: t => encE x ++ encL t
theorem encL_len : ∀ l : List Ed, (encL l).length = l.length * 4
 | [] => rfl
 | x :: t => by
  simp only [encL, List.length_append, encL_len t, List.length_cons]
  show 4 + t.length * 4 = (t.length + 1) * 4
  omega
theorem encL_app : ∀ a b : List Ed, encL (a ++ b) = encL a ++ encL b
 | [], b => rfl
 | x :: t, b => by simp only [List.cons_append, encL, encL_app t b, List.append_assoc]
theorem encL_at : ∀ (l : List Ed) (j : Nat) (v : Value), (encL l)[j]? = some v → ∃ p, l[j / 4]? = some p ∧ (encE p)[j % 4]? = some v
 | [], j, v, h => by simp [encL] at h
 | x :: t, j, v, h => by
  simp only [encL] at h
  by_cases hj : j < 4
  ·rw [List.getElem?_append_left (by show j < 4; exact hj)] at h
   refine ⟨x, by rw [Nat.div_eq_of_lt hj]; rfl, by rw [Nat.mod_eq_of_lt hj]; exact h⟩
  ·obtain ⟨i, rfl⟩ : ∃ i, j = i + 4 := ⟨j - 4, by omega⟩
   rw [List.getElem?_append_right (by show 4 ≤ i + 4; omega)] at h
   have h' : (encL t)[i]? = some v := h
   obtain ⟨p, h1, h2⟩ := encL_at t i v h'
   refine ⟨p, ?_, by rw [Nat.add_mod_right]; exact h2⟩
   rw [Nat.add_div_right i (by decide)]
   simpa using h1
theorem encL_one (l : List Ed) : ∀ v ∈ encL l, v.oneCell' = true := by
 induction l with
 | nil => intro v h; cases h
 | cons x t ih =>
  intro v h
  simp only [encL] at h
  rcases List.mem_append.1 h with h | h
  ·unfold encE at h
   simp only [List.mem_cons, List.not_mem_nil, or_false] at h
   rcases h with rfl | rfl | rfl | rfl <;> rfl
  ·exact ih v h
theorem encL_reps {w : World} {base : Nat} {ok : Nat → Prop} : ∀ l : List Ed, Reps (fun (x : Ed) cs => Kd.M k77 w base ok x cs) 4 l (encL l)
 | [] => Reps.none _ _
 | x :: t => Reps.c4 (k77_mkM w base ok x) (encL_reps t)
theorem run_copy_four {P : Program} (w : World) (dT sT ty elem : TypeId) (b o dLen dCap : Nat) (a : Addr) (sLen sCap : Nat) (cs : List Value) (k : Nat)
  (hu : P.underlying dT = some (.slice elem)) (hs : (P.info? elem).map (·.size) = some 4) (hk : k = Nat.min sLen dLen) (hn : cs.length = k * 4)
  (hsrc : ∀ j v, cs[j]? = some v → w.cell? (a.add j) = some v) (hc : ∀ j, j < cs.length → (w.cell? ⟨b, o + j, none⟩).isSome = true) (hf : ∀ j, j < cs.length → w.frozen? ⟨b, o + j, none⟩ = false) (h1 : ∀ v ∈ cs, v.oneCell' = true) :
  (Builtin.copy_ #[dT, sT] ty #[.slice (some ⟨b, o, none⟩) dLen dCap, .slice (some a) sLen sCap]).run P w = .ok (goInt k) (w.setCells b o cs) := by
 have hl := run_loadCells_list (P := P) w a cs hsrc
 have hst := run_storeCells_cells (P := P) b o cs 0 w (by simpa using hc) (by simpa using hf) h1
 cases hq : P.info? elem with
 | none => simp [hq] at hs
 | some i =>
  have hi : i.size = 4 := by simpa [hq] using hs
  simp [Builtin.copy_, run_underlying hu, Builtin.lenOf, Builtin.firstCells, sizeOf, typeInfo, hq, hi, ← hk, ← hn, hl, hst]
theorem run_copy_four0 {P : Program} (w : World) (dT sT ty elem : TypeId) (d a : Option Addr) (dLen dCap sLen sCap : Nat) (hu : P.underlying dT = some (.slice elem)) (hs : (P.info? elem).map (·.size) = some 4) (hn : Nat.min sLen dLen = 0) :
  (Builtin.copy_ #[dT, sT] ty #[.slice d dLen dCap, .slice a sLen sCap]).run P w = .ok (goInt 0) w := by
 cases hq : P.info? elem with
 | none => simp [hq] at hs
 | some i =>
  have hl : ∀ (x : Addr), (loadCells x 0).run P w = .ok #[] w := fun x => by simpa using run_loadCells_list (P := P) w x [] (by simp)
  cases d <;> cases a <;> simp [Builtin.copy_, run_underlying hu, Builtin.lenOf, Builtin.firstCells, sizeOf, typeInfo, hq, hn, storeCells, hl]
def rep (c : Nat) (l : List Ed) : List Ed := (List.replicate c l).flatten
theorem rep_len (c : Nat) (l : List Ed) : (rep c l).length = c * l.length := by
 unfold rep
 simp
theorem rep_succ (c : Nat) (l : List Ed) : rep (c + 1) l = l ++ rep c l := by
 unfold rep
 rw [List.replicate_succ, List.flatten_cons]
def Bh (W : World) (g : Nat) (R : List Ed) (n : Nat) : Prop := ∃ rest : List Value, W.heap[g]? = some (.cells (encL (R.take n) ++ rest).toArray 77 (0, 0)) ∧ n ≤ R.length ∧ (encL (R.take n) ++ rest).length = R.length * 4
theorem Bh.row {W : World} {g base : Nat} {R : List Ed} (h : Bh W g R R.length) (hb : base ≤ g) (hl : R.length ≤ 1000000) : Kd.R k77 77 W base (fun _ => True) (.slice (some ⟨g, 0, none⟩) R.length R.length) R := by
 obtain ⟨rest, h1, h2, h3⟩ := h
 rw [List.take_length] at h1 h3
 have hr : rest = [] := by
  rw [List.length_append, encL_len] at h3
  exact List.eq_nil_of_length_eq_zero (by omega)
 subst hr
 rw [List.append_nil] at h1 h3
 refine ⟨fun _ _ => trivial, encL R, ⟨by rw [encL_len]; rfl, .inr ⟨g, R.length, (encL R).toArray, rfl, hb, h1, Nat.le_refl _, by unfold maxLen; omega, ?_, ?_⟩⟩, encL_reps R⟩
 ·simp [encL_len]
  rfl
 ·show (encL R).toArray.toList.take (R.length * 4) = encL R
  rw [List.take_of_length_le (by simp [encL_len])]
theorem rep_add (a b : Nat) (l : List Ed) : rep (a + b) l = rep a l ++ rep b l := by
 unfold rep
 rw [← List.replicate_append_replicate, List.flatten_append]
theorem rep_step {c a k : Nat} {l : List Ed} (ha : a ≤ c) (hk : a * l.length + k ≤ (rep c l).length) : (rep c l).take (a * l.length) ++ (rep c l).take k = (rep c l).take (a * l.length + k) := by
 have e1 : rep c l = rep a l ++ rep (c - a) l := by rw [← rep_add]; congr 1; omega
 have e2 : rep c l = rep (c - a) l ++ rep a l := by rw [← rep_add]; congr 1; omega
 rw [rep_len] at hk
 have hla := rep_len a l
 have hlb := rep_len (c - a) l
 have hle : k ≤ (rep (c - a) l).length := by
  rw [hlb, Nat.sub_mul]
  omega
 have t1 : (rep c l).take (a * l.length) = rep a l := by
  rw [e1, List.take_append_of_le_length (by omega), List.take_of_length_le (by omega)]
 have t2 : (rep c l).take k = (rep (c - a) l).take k := by
  rw [e2, List.take_append_of_le_length hle]
 have t3 : (rep c l).take (a * l.length + k) = rep a l ++ (rep (c - a) l).take k := by
  rw [e1, ← hla, List.take_length_add_append]
 rw [t1, t2, t3]
theorem repmul_f (m c : Int) (h0 : 0 ≤ m) (h1 : m ≤ 1000) (h2 : 0 ≤ c) (h3 : c ≤ 1000) : bits_Mul.f m c = some (0, m * c) := by
 have hp : 0 ≤ m * c ∧ m * c ≤ 1000000 := ⟨Int.mul_nonneg h0 h2, by have := Int.mul_le_mul h1 h3 h2 (by decide); omega⟩
 have e1 : m / 4294967296 = 0 := by omega
 have e2 : c / 4294967296 = 0 := by omega
 have e3 : m % 4294967296 = m := by omega
 have e4 : c % 4294967296 = c := by omega
 have e5 : IntKind.u64.wrap (m * c) = m * c := IntWalk.u64_in _ ⟨hp.1, by omega⟩
 have e6 : m * c / 4294967296 = 0 := by omega
 have e7 : IntKind.u64.wrap 0 = 0 := by decide
 unfold bits_Mul.f bits_Mul64.f
 rw [and_low32 m h0 (by omega), and_low32 c h2 (by omega)]
 simp only [e1, e2, e3, e4, Int.zero_mul, Int.mul_zero, e5, e6, e7, Int.add_zero, Int.zero_ediv, Option.bind_some]
 rw [and_low32 0 (by decide) (by decide)]
 simp only [Int.zero_emod, Int.add_zero, e7, Int.zero_ediv]
def zC4 : Array Value := #[.int .i64 0, .int .i64 0, .int .i64 0, .int .i64 0]
theorem mk4 (n : Nat) (w : World) (hn : n ≤ 100000) : Sem.run Try.prog (Instr.makeSlice 22 (.int .i64 (n : Int)) (.int .i64 (n : Int))) w = .ok (.slice (some ⟨w.heap.size, 0, none⟩) n n) (w.alloc (.cells (madeCells zC4 (n * 4)) 77)) := by
 obtain ⟨i0, hi, hzz⟩ := Option.map_eq_some_iff.1 (show (Try.prog.info? 77).map (fun i => (i.zero, i.size, i.bytes)) = some (some (.agg #[(.int .i64 0), (.int .i64 0), (.int .i64 0), (.int .i64 0)]), 4, 32) from info77)
 simp only [Prod.mk.injEq] at hzz
 have h := Go.run_make (P := Try.prog) w 22 77 i0 (.agg #[(.int .i64 0), (.int .i64 0), (.int .i64 0), (.int .i64 0)]) Try.underlying22 hi hzz.1 .i64 .i64 (n : Int) (n : Int) (by omega) (by omega) (by rw [hzz.2.2]; omega) (by omega)
 rw [hzz.2.1] at h
 simpa [Value.cells, zC4] using h
theorem Bh.start (W : World) (R : List Ed) : Bh (W.alloc (.cells (madeCells zC4 (R.length * 4)) 77)) W.heap.size R 0 := by
 refine ⟨(madeCells zC4 (R.length * 4)).toList, ?_, Nat.zero_le _, ?_⟩
 ·have := blk_new W (.cells (madeCells zC4 (R.length * 4)) 77 (0, 0))
  simpa [encL] using this
 ·simp [encL, size_madeCells]
theorem Bh.lay {W : World} {g n k : Nat} {R S : List Ed} (h : Bh W g R n) (hk : n + k ≤ R.length) (hS : S.length = k) (hR : R.take n ++ S = R.take (n + k)) : Bh (W.setCells g (n * 4) (encL S)) g R (n + k) ∧ (∀ j, j < (encL S).length → (W.cell? ⟨g, n * 4 + j, none⟩).isSome = true) ∧ (∀ j, j < (encL S).length → W.frozen? ⟨g, n * 4 + j, none⟩ = false) := by
 obtain ⟨rest, h1, h2, h3⟩ := h
 have hl : (encL (R.take n)).length = n * 4 := by rw [encL_len, List.length_take]; congr 1; omega
 have hs : (encL S).length = k * 4 := by rw [encL_len, hS]
 rw [List.length_append, hl] at h3
 have hsz : n * 4 + (encL S).length ≤ (encL (R.take n) ++ rest).toArray.size := by
  rw [hs]
  simp only [List.size_toArray, List.length_append, hl]
  omega
 refine ⟨?_, fun j hj => ?_, fun j _ => blk_frozen h1 _⟩
 ·obtain ⟨cur', c1, c2, c3⟩ := setCells_row (encL S) (n * 4) W _ h1 hsz
  have e1 : (encL (R.take n) ++ rest).toArray.toList = encL (R.take n) ++ rest := rfl
  rw [e1] at c3
  refine ⟨rest.drop (k * 4), ?_, hk, ?_⟩
  ·rw [c1]
   congr 2
   rw [← hR, encL_app, ← Array.toList_inj, c3]
   rw [List.take_append_of_le_length (by omega), List.take_of_length_le (by omega), hs]
   rw [show n * 4 + k * 4 = (encL (R.take n)).length + k * 4 by rw [hl], List.drop_length_add_append]
  ·rw [← hR, encL_app]
   simp only [List.length_append, hl, hs, List.length_drop]
   omega
 ·have hlt : n * 4 + j < (encL (R.take n) ++ rest).length := by
   rw [List.length_append, hl]
   rw [hs] at hj
   omega
  rw [blk_cell h1, List.getElem?_toArray, List.getElem?_eq_getElem hlt]
  rfl
theorem src_at {W : World} {ad : Addr} {A : Option Addr} {l : List Ed} (hA : A = some ad) (h : Kd.C k77 W A l.length l) : ∀ j v, (encL l)[j]? = some v → W.cell? (ad.add j) = some v := by
 intro j v hj
 obtain ⟨p, h1, h2⟩ := encL_at l j v hj
 have hpos : 0 < l.length := Nat.lt_of_le_of_lt (Nat.zero_le _) (List.getElem?_eq_some_iff.1 h1).1
 obtain ⟨ad', e, hc⟩ := h.2.2 hpos
 obtain rfl : ad = ad' := Option.some.inj (hA.symm.trans e)
 obtain ⟨c, hs, hK, hcell⟩ := hc _ p h1
 obtain rfl := k77_open hK
 have h3 := hcell (j % 4) v h2
 have e4 : j / 4 * (k77).sz + j % 4 = j := Nat.div_add_mod' j 4
 rwa [e4] at h3
theorem Bh.src {W : World} {g n k : Nat} {R : List Ed} (h : Bh W g R n) (hk : k ≤ n) : ∀ j v, (encL (R.take k))[j]? = some v → W.cell? ((⟨g, 0, none⟩ : Addr).add j) = some v := by
 obtain ⟨rest, h1, h2, h3⟩ := h
 intro j v hj
 rw [add_plain, blk_cell h1, List.getElem?_toArray]
 have e : R.take n = R.take k ++ (R.take n).drop k := by
  rw [show R.take k = (R.take n).take k by rw [List.take_take]; congr 1; omega]
  exact (List.take_append_drop k (R.take n)).symm
 have hlt := (List.getElem?_eq_some_iff.1 hj).1
 rw [e, encL_app, List.append_assoc, List.getElem?_append_left hlt]
 exact hj
set_option maxHeartbeats 800000 in
set_option maxRecDepth 100000 in
theorem repeat_n (A0 : Option Addr) (c0 : Nat) (l : List Ed) (c : Int) (w : World) (hr : Kd.C k77 w A0 l.length l) (hl : l.length ≤ 100) (h0 : 0 ≤ c) (h1 : c ≤ 1000) :
  Calls Try.prog 100 #[.slice A0 l.length c0, .int .i64 c] w (LP w (rep c.toNat l)) := by
 have hu := Try.underlying77
 have HG := Aside0.mk hr
 have HL := Aside0.mk (And.intro hl (And.intro h0 h1))
 have hlen : ((rep c.toNat l).length : Int) = (l.length : Int) * c := by
  rw [rep_len, Int.natCast_mul, Int.mul_comm]
  congr 1
  omega
 have hN : (rep c.toNat l).length ≤ 100000 := by
  have := Int.mul_le_mul (show (l.length : Int) ≤ 100 by omega) h1 h0 (by decide)
  omega
 have HM := Aside0.mk (show bits_Mul.f (l.length : Int) c = some (0, ((rep c.toNat l).length : Int)) by rw [hlen]; exact repmul_f _ _ (by omega) (by omega) h0 (by omega))
 have hc : decide (c < 0) = false := decide_eq_false (by omega)
 have HR := Aside0.mk (show rep c.toNat l = rep c.toNat l from rfl)
 have HLen := Aside0.mk (rep_len c.toNat l)
 generalize hRR : rep c.toNat l = R at HM HLen hN ⊢
 have HRR := Aside0.mk hRR
 have hg1 : decide ((R.length : Int) > 9223372036854775807) = false := decide_eq_false (by omega)
 have hw1 : wrap64 (R.length : Int) = R.length := w64 (by omega) (by omega)
 have hwm : IntKind.u64.wrap (l.length : Int) = l.length := IntWalk.u64_in _ ⟨by omega, by omega⟩
 have hwc : IntKind.u64.wrap c = c := IntWalk.u64_in _ ⟨by omega, by omega⟩
 clear hr hl h1 hlen hRR
 go_enter Try.func100, Try.ntmps100
 go_wp2_with fail
 have HM2 := Aside0.mk (bits_Mul.calls (l.length : Int) c 0 (R.length : Int) w HM.out)
 refine HM2.out.mono ?_
 rintro e w' ⟨rfl, ⟨nd, rfl⟩⟩
 generalize hW : World.drewN w nd = W
 have HB := Aside0.mk (show Below w.heap.size w W by rw [← hW]; exact pw_below_drewN (Below.refl _ _) nd)
 clear hW
 have hmk := mk4 R.length W hN
 have HS := Aside0.mk (And.intro (Bh.start W R) (HB.out.trans ((below_alloc (Below.refl W.heap.size W) (.cells (madeCells zC4 (R.length * 4)) 77 (0, 0))).mono HB.out.size)))
 go_wp2_with fail
 have hgw : w.heap.size ≤ W.heap.size := HB.out.size
 generalize W.heap.size = g at *
 have hcopy : ∃ (n a : Nat) (W2 : World), Sem.run Try.prog (Builtin.copy_ #[22, 22] 3 #[.slice (some ⟨g, 0, none⟩) R.length R.length, .slice A0 l.length c0]) (W.alloc (.cells (madeCells zC4 (R.length * 4)) 77)) = .ok (.int .i64 (n : Int)) W2 ∧ (n = a * l.length ∧ a ≤ c.toNat ∧ n ≤ R.length ∧ (R.length = 0 ∨ 1 ≤ n)) ∧ Bh W2 g R n ∧ Below w.heap.size w W2 := by
  by_cases hz : R.length = 0
  ·exact ⟨0, 0, _, run_copy_four0 _ _ _ _ 77 _ _ _ _ _ _ Try.underlying22 (by kernel_rfl) (by rw [hz]; exact Nat.min_zero _), ⟨by simp, by omega, by omega, .inl hz⟩, HS.out.1, HS.out.2⟩
  ·have hRl := HLen.out
   have hlp : 0 < l.length := by
    refine Nat.pos_of_ne_zero fun h => hz ?_
    rw [hRl, h, Nat.mul_zero]
   have hcp : 1 ≤ c.toNat := by
    refine Nat.pos_of_ne_zero fun h => hz ?_
    rw [hRl, h, Nat.zero_mul]
   have hle : l.length ≤ R.length := by
    rw [hRl]
    exact Nat.le_mul_of_pos_left _ hcp
   have htk : R.take l.length = l := by
    rw [← HRR.out, show c.toNat = (c.toNat - 1) + 1 by omega, rep_succ, List.take_left]
   obtain ⟨ad, e, _⟩ := HG.out.2.2 hlp
   have hlay := Bh.lay (n := 0) (k := l.length) (S := l) HS.out.1 (by omega) rfl (by rw [List.take_zero, List.nil_append, Nat.zero_add, htk])
   simp only [Nat.zero_mul, Nat.zero_add] at hlay
   subst e
   have hsrc := src_at rfl (Kd.C_below HG.out HS.out.2)
   refine ⟨l.length, 1, _, run_copy_four _ _ _ _ 77 g 0 _ _ ad _ _ (encL l) l.length Try.underlying22 (by kernel_rfl) (by simp only [Nat.min_def]; split <;> omega) (encL_len l) hsrc (by simpa using hlay.2.1) (by simpa using hlay.2.2) (encL_one l), ⟨by omega, hcp, hle, .inr hlp⟩, hlay.1, ?_⟩
   have hset : ∀ (vs : List Value) (o : Nat) (V : World), Below w.heap.size w V → Below w.heap.size w (V.setCells g o vs) := by
    intro vs
    induction vs with
    | nil => intro o V h; exact h
    | cons v t ih => intro o V h; exact ih (o + 1) _ (h.setCell hgw v)
   exact hset _ _ _ HS.out.2
 obtain ⟨n0, a0, W2, hcp, hn0, hB2⟩ := hcopy
 have HN := Aside0.mk (And.intro hn0 hB2)
 clear hn0 hB2 HS HB hmk HM2 HM
 generalize World.alloc W _ = W1 at *
 rw [hcp]
 clear hcp
 go_wp2_with fail
 go_loopg [8] R.length (fun kq v8 w' => ∃ n a : Nat, v8 = .int .i64 (n : Int) ∧ Aside0 (n = a * l.length ∧ a ≤ c.toNat ∧ n ≤ R.length ∧ R.length ≤ n + kq ∧ (R.length = 0 ∨ 1 ≤ n)) ∧ Aside0 (Bh w' g R n ∧ Below w.heap.size w w'))
 case atStart => exact ⟨n0, a0, rfl, ⟨HN.out.1.1, HN.out.1.2.1, HN.out.1.2.2.1, by omega, HN.out.1.2.2.2⟩, ⟨HN.out.2⟩⟩
 case round =>
  obtain ⟨n, a, rfl, hn, hB⟩ := hrel
  by_cases hlt : n < R.length
  ·have hlb : decide ((n : Int) < (R.length : Int)) = true := decide_eq_true (by omega)
   go_wp2_with fail
   have hb0 : Below wr.heap.size wr wr.drew := below_drew' (Below.refl _ _)
   have hK : ∃ k : Nat, k = Nat.min n (R.length - n) := ⟨_, rfl⟩
   obtain ⟨k, hk⟩ := hK
   have hkn : k ≤ n ∧ k ≤ R.length - n ∧ (k = n ∨ k = R.length - n) ∧ 1 ≤ k := by
    have := hn.out.2.2.2.2
    have e : k = if n ≤ R.length - n then n else R.length - n := hk
    split at e <;> omega
   have hHB : Bh wr.drew g R n := by
    obtain ⟨rest, e1, e2, e3⟩ := hB.out.1
    exact ⟨rest, blk_below e1 hb0, e2, e3⟩
   have hR2 : R.take n ++ R.take k = R.take (n + k) := by
    have h1 := hn.out.1
    have h2 := rep_step (c := c.toNat) (a := a) (k := k) (l := l) hn.out.2.1 (by rw [HRR.out, ← h1]; omega)
    rw [HRR.out, ← h1] at h2
    exact h2
   have hlay := Bh.lay (n := n) (k := k) (S := R.take k) hHB (by omega) (by rw [List.length_take]; omega) hR2
   have hcp : Sem.run Try.prog (Builtin.copy_ #[22, 22] 3 #[.slice (some ⟨g, n * 4, none⟩) (R.length - n) (R.length - n), .slice (some ⟨g, 0, none⟩) n R.length]) wr.drew = .ok (.int .i64 (k : Int)) (wr.drew.setCells g (n * 4) (encL (R.take k))) :=
    run_copy_four _ _ _ _ 77 g (n * 4) _ _ _ _ _ (encL (R.take k)) k Try.underlying22 (by kernel_rfl) hk (by rw [encL_len, List.length_take]; congr 1; omega) (Bh.src hHB hkn.1) hlay.2.1 hlay.2.2 (encL_one _)
   have hset : ∀ (vs : List Value) (o : Nat) (V : World), Below w.heap.size w V → Below w.heap.size w (V.setCells g o vs) := by
    intro vs
    induction vs with
    | nil => intro o V h; exact h
    | cons v t ih => intro o V h; exact ih (o + 1) _ (h.setCell hgw v)
   have H9 := Aside0.mk (And.intro hlay.1 (hset (encL (R.take k)) (n * 4) _ (hB.out.2.trans (hb0.mono hB.out.2.size))))
   have HK := Aside0.mk (And.intro hkn hk)
   have hwn : wrap64 ((n : Int) + (k : Int)) = ((n + k : Nat) : Int) := by rw [w64 (by omega) (by omega)]; omega
   have hle := eq_true hn.out.2.2.1
   have hne := eq_false (Nat.ne_of_gt hlt)
   clear hk hkn hHB hR2 hlay hset
   refine start_ (n := 10) (S := fun w' => True) (ds := []) (bs 10 0) (by kernel_rfl) rfl rfl trivial (fun hHeld => ?_)
   refine zP 0 38 10 1 ?_
   refine zP 1 39 10 3 ?_
   refine zP 2 40 10 7 ?_
   refine zP 3 41 10 15 ?_
   refine zP 4 42 10 31 ?_
   refine zP 5 43 10 63 ?_
   refine zP 6 44 10 127 ?_
   refine zN 7 (some 45) 10 255 (fun K hK => ?_)
   refine value_ (v := .int .i64 (k : Int)) (w1 := wr.drew.setCells g (n * 4) (encL (R.take k))) (by rfl) rfl ?_ ?_
   ·go_simp
   refine hK.out _ _ trivial (fun hHeld => ?_)
   clear hK K
   refine zM 45 ?_
   refine zP 8 46 10 511 ?_
   refine zP 9 8 10 1023 ?_
   refine done_ (by kernel_rfl) ?_
   clear hcp
   generalize wr.drew.setCells g (n * 4) (encL (R.take k)) = W9 at *
   go_wp2_with fail
   go_roundg (gk - 1)
   case measure => have := hn.out; omega
   case rel =>
    have h1 := hn.out
    have h2 := HK.out.1
    rcases h2.2.2.1 with h3 | h3
    ·refine ⟨n + k, a + a, by rw [Int.natCast_add], ⟨?_, ?_, by omega, by omega, by omega⟩, ⟨H9.out⟩⟩
     ·rw [Nat.add_mul, ← h1.1, h3]
     ·have hl := HLen.out
      have h4 : (a + a) * l.length ≤ c.toNat * l.length := by rw [Nat.add_mul, ← h1.1]; omega
      refine Nat.le_of_mul_le_mul_right h4 (Nat.pos_of_ne_zero fun h => ?_)
      have h5 := h1.1
      rw [h, Nat.mul_zero] at h5
      omega
    ·refine ⟨n + k, c.toNat, by rw [Int.natCast_add], ⟨?_, Nat.le_refl _, by omega, by omega, by omega⟩, ⟨H9.out⟩⟩
     have := HLen.out
     omega
  ·have hlb : decide ((n : Int) < (R.length : Int)) = false := decide_eq_false (by omega)
   have hne : n = R.length := by have := hn.out; omega
   subst hne
   have hrow := Aside0.mk (Bh.row (base := w.heap.size) hB.out.1 hgw (by omega))
   go_wp2_with fail
   go_ret
   exact ⟨_, rfl, hrow.out, hB.out.2⟩
def repV (ms ts n : Int) (l : List Ed) : List Ed × Int := if chk l ms ts = 0 then (if n < 0 ∨ 100 < n then ([], 1) else nrmV ms ts (rep n.toNat l)) else ([], chk l ms ts)
theorem rep_mem {c : Nat} {l : List Ed} : ∀ x ∈ rep c l, x ∈ l := by
 intro x hx
 unfold rep at hx
 obtain ⟨y, hy, h⟩ := List.mem_flatten.1 hx
 rw [(List.mem_replicate.1 hy).2] at h
 exact h
theorem rep_le {n : Int} {l : List Ed} (hl : l.length ≤ 20) (h0 : 0 ≤ n) (h1 : n ≤ 100) : (rep n.toNat l).length ≤ 2000 := by
 rw [rep_len]
 exact Nat.mul_le_mul (show n.toNat ≤ 100 by omega) hl
set_option maxHeartbeats 8000000 in
set_option maxRecDepth 100000 in
theorem erepeat_n (A0 : Option Addr) (c0 : Nat) (l0 : List Ed) (ms ts y : Int) (w : World) (h0 : Kd.C k77 w A0 l0.length l0) (hc0 : l0.length ≤ c0) :
  Calls Try.prog 50 #[.slice A0 l0.length c0, .int .i64 ms, .int .i64 ts, .int .i64 y] w (TP w (repV ms ts y l0)) := by
 have hu := Try.underlying79
 have HG := Aside0.mk (And.intro h0 hc0)
 have HV := Aside0.mk (show repV ms ts y l0 = if chk l0 ms ts = 0 then (if y < 0 ∨ 100 < y then ([], 1) else nrmV ms ts (rep y.toNat l0)) else ([], chk l0 ms ts) from rfl)
 have HK := Aside0.mk (fun h : chk l0 ms ts = 0 => chk_ok.1 h)
 generalize repV ms ts y l0 = V at *
 have HC := Aside0.mk (show ∀ W, Kd.C k77 W A0 l0.length l0 → Calls Try.prog 24 #[.slice A0 l0.length c0, .int .i64 ms, .int .i64 ts] W (ValP W (.int .i64 (chk l0 ms ts))) from fun W hr => check_n A0 c0 l0 ms ts W hr hc0)
 generalize chk l0 ms ts = C at *
 clear h0 hc0
 go_enter Try.func50, Try.ntmps50
 go_wp2_with fail
 refine (HC.out w HG.out.1).mono ?_
 rintro e w2 ⟨rfl, hb2⟩
 have HB2 := Aside0.mk hb2
 clear hb2
 by_cases hz : C = 0
 case neg =>
  have HV2 := Aside0.mk (show V = ([], C) by rw [HV.out, if_neg hz])
  clear HV HK
  go_wp2_with fail
  go_ret2
  rw [HV2.out]
  exact ⟨_, rfl, Kd.R_nil _ _ _ _ _, HB2.out⟩
 subst hz
 have HV2 := Aside0.mk (show V = if y < 0 ∨ 100 < y then ([], 1) else nrmV ms ts (rep y.toNat l0) by rw [HV.out, if_pos rfl])
 have HK2 := Aside0.mk (HK.out rfl)
 clear HV HK HC
 by_cases y1 : y < 0
 ·have HV3 := Aside0.mk (show V = ([], 1) by rw [HV2.out, if_pos (.inl y1)])
  have b1 : decide (y < 0) = true := decide_eq_true y1
  clear HV2
  go_wp2_with fail
  go_ret2
  rw [HV3.out]
  exact ⟨_, rfl, Kd.R_nil _ _ _ _ _, HB2.out⟩
 have b1 : decide (y < 0) = false := decide_eq_false y1
 by_cases y2 : y > 100
 ·have HV3 := Aside0.mk (show V = ([], 1) by rw [HV2.out, if_pos (.inr y2)])
  have b2 : decide (y > 100) = true := decide_eq_true y2
  clear HV2
  go_wp2_with fail
  go_ret2
  rw [HV3.out]
  exact ⟨_, rfl, Kd.R_nil _ _ _ _ _, HB2.out⟩
 have b2 : decide (y > 100) = false := decide_eq_false y2
 have HV3 := Aside0.mk (show V = nrmV ms ts (rep y.toNat l0) by rw [HV2.out, if_neg (by omega)])
 have HQ := Aside0.mk (show Ck ms ts ∧ (∀ x ∈ rep y.toNat l0, Vd x) ∧ (rep y.toNat l0).length ≤ 1000000000 by
  refine ⟨HK2.out.1, fun x hx => HK2.out.2.2.1 x (rep_mem x hx), ?_⟩
  have := rep_le (n := y) HK2.out.2.1 (by omega) (by omega)
  omega)
 have HY := Aside0.mk (show l0.length ≤ 100 ∧ 0 ≤ y ∧ y ≤ 1000 by have := HK2.out.2.1; omega)
 clear HV2 HK2
 go_wp2_with fail
 refine (repeat_n A0 c0 l0 y w2 (Kd.C_below HG.out.1 HB2.out) HY.out.1 HY.out.2.1 HY.out.2.2).mono ?_
 rintro e w3 ⟨v, rfl, hr3, hb3⟩
 have HB3 := Aside0.mk (And.intro hr3 (HB2.out.trans (hb3.mono HB2.out.size)))
 obtain ⟨A3, c3, rfl⟩ := Kd.R_slice hr3
 clear hr3 hb3
 generalize rep y.toNat l0 = L at *
 go_wp2_with fail
 refine (normal_n HQ.out.1 A3 c3 L HQ.out.2.1 HQ.out.2.2 w3 (Kd.R_reads' HB3.out.1).2.2 (Kd.R_reads' HB3.out.1).2.1).mono ?_
 rintro e w4 ⟨v4, rfl, hr4, hb4⟩
 have H4 := Aside0.mk (And.intro (Kd.R_lower hr4 HB3.out.2.size) (HB3.out.2.trans (hb4.mono HB3.out.2.size)))
 obtain ⟨A4, c4, rfl⟩ := Kd.R_slice hr4
 clear hr4 hb4
 rw [← HV3.out] at H4 ⊢
 go_wp2_with fail
 go_ret2
 exact ⟨_, rfl, H4.out.1, H4.out.2⟩
end Go.Proofs.Ytpbhepdgamoiaaa.Rp
namespace Go.Proofs.Ytpbhepdgamoiaaa.E
open Go.RowKit Go Go.Proofs.YtpbhepdgamoiaaaW.PrintWords Go.Proofs.YtpbhepdgamoiaaaW.PrintLast Go.Proofs.YtpbhepdgamoiaaaW.PrintMore Go.Proofs.Ytpbhepdgamoiaaa.Pe Go.Proofs.Ytpbhepdgamoiaaa.Rp
def edit_Repeat.f (l0 : List (S77)) (a1 : Int) (a2 : Int) (a3 : Int) : Option ((List (S77)) × Int) := some (repV a1 a2 a3 l0)
theorem edit_Repeat.calls (A0 : Option Addr) (c0 : Nat) (l0 : List (S77)) (a1 : Int) (a2 : Int) (a3 : Int) (r1 : List (S77)) (r2 : Int) (w : World) (hr0 : Kd.C k77 w A0 l0.length l0) (hc0 : l0.length ≤ c0) (h : edit_Repeat.f l0 a1 a2 a3 = some (r1, r2)) :
  Calls Try.prog 50 #[.slice A0 l0.length c0, .int .i64 a1, .int .i64 a2, .int .i64 a3] w fun e w' => ∃ v0_ : Value, e = .returned (.tuple #[v0_, .int .i64 r2]) ∧ Kd.R k77 77 w' w.heap.size (fun _ => True) v0_ r1 ∧ Below w.heap.size w w' := by
 have hV : repV a1 a2 a3 l0 = (r1, r2) := Option.some.inj h
 have := erepeat_n A0 c0 l0 a1 a2 a3 w hr0 hc0
 rw [hV] at this
 exact this
end Go.Proofs.Ytpbhepdgamoiaaa.E

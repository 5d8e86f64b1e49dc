/-
  The reference's natural numbers, in digits of nine decimal places: what its printed functions compute. The reference's natural numbers: sums, differences, products, quotients, small ones. The reference's natural numbers in memory, and what the calls on them answer. The reference's rational numbers: product, sum, comparison.
-/
import Derived.Test.YtdginjpppgfdaaaKa
import Derived.Test.YtdginjpppgfdaaaKd
namespace Go.Proofs.Ytdginjpppgfdaaa.Pa
open Go.RowKit Go.Proofs.Ytdginjpppgfdaaa.P Go.Proofs.YtdginjpppgfdaaaW.PrintWords Go.Proofs.YtdginjpppgfdaaaW.PrintLast Go.Proofs.Ytdginjpppgfdaaa.Ml Go.Proofs.Ytdginjpppgfdaaa.Mn
set_option linter.unusedVariables false
set_option linter.unusedSimpArgs false

abbrev Bd : Int := 1000000000
/-- Digits with no zero on top. -/
abbrev Nn (l : List Int) : Prop := Cn 1000000000 l
theorem top_cons {x : Int} {l : List Int} (h : Top l) (hx : l = [] → x ≠ 0) : Top (x :: l) := by
  intro hne
  cases l with
  | nil => simpa using hx rfl
  | cons y t =>
    rw [List.getLast_cons (by simp)]
    exact h (by simp)
theorem digit_f (l : List Int) (i : Nat) : dioramaref02_digit.f l (i : Int) = some (l.getD i 0) := by
  unfold dioramaref02_digit.f
  by_cases h : i < l.length
  · rw [if_pos (by omega), if_pos (by omega), rd_nat]
  · rw [if_neg (by omega), getD_ge (by omega)]
theorem tmodB {x : Int} (h : 0 ≤ x) : Int.tmod x 1000000000 = x % 1000000000 := Int.tmod_eq_emod_of_nonneg h
theorem tdivB {x : Int} (h : 0 ≤ x) : Int.tdiv x 1000000000 = x / 1000000000 := Int.tdiv_eq_ediv_of_nonneg h
theorem of_l (m : Nat) : ∀ (x : Int) (acc : List Int), 0 ≤ x → x < pw 1000000000 m → x ≤ 9223372036854775807 → acc.length + m ≤ 1000 → ∃ r, Ev (fun k => dioramaref02_Of.l0 k x acc) (acc ++ r) ∧ Nn r ∧ dv 1000000000 r = x ∧ r.length ≤ m := by
  induction m with
  | zero =>
    intro x acc h0 h1 _ _
    have hx : x = 0 := by simp [pw] at h1; omega
    subst hx
    exact ⟨[], Ev.step (f := fun _ => some (acc ++ [])) (fun k => by simp [dioramaref02_Of.l0]) (Ev.now _), Cn.nil _, rfl, Nat.le_refl _⟩
  | succ m ih =>
    intro x acc h0 h1 h2 hl
    by_cases hx : x = 0
    · subst hx
      exact ⟨[], Ev.step (f := fun _ => some (acc ++ [])) (fun k => by simp [dioramaref02_Of.l0]) (Ev.now _), Cn.nil _, rfl, Nat.zero_le _⟩
    · have hd : x / 1000000000 < pw 1000000000 m := by
        rw [pw_succ] at h1
        omega
      obtain ⟨r, he, hc, hv, hr⟩ := ih (x / 1000000000) (acc ++ [x % 1000000000]) (by omega) hd (by omega) (by simp; omega)
      refine ⟨x % 1000000000 :: r, ?_, ⟨Dg.cons (by omega) (by omega) hc.dg, top_cons hc.top (fun h => ?_)⟩, ?_, by simp; omega⟩
      · rw [List.append_assoc, List.singleton_append] at he
        refine Ev.step (fun k => ?_) he
        simp only [dioramaref02_Of.l0]
        rw [if_pos (by omega), if_pos (by omega), tdivB h0, tmodB h0, w64 (by omega) (by omega)]
      · subst h
        simp only [dv] at hv
        omega
      · simp only [dv] at hv ⊢
        rw [hv]
        omega
theorem of_f (x : Int) (h0 : 0 ≤ x) (h1 : x ≤ 9223372036854775807) : ∃ r, Ev (fun k => dioramaref02_Of.f k x) r ∧ Nn r ∧ dv 1000000000 r = x ∧ r.length ≤ 3 := by
  obtain ⟨r, he, h⟩ := of_l 3 x [] h0 (by simp [pw]; omega) h1 (by simp)
  exact ⟨r, he, h⟩
theorem trimmed_l (l : List Int) (hd : Dg 1000000000 l) (hl : l.length ≤ 1000000) : ∀ n : Nat, n ≤ l.length → dv 1000000000 (l.take n) = dv 1000000000 l → ∃ r, Ev (fun k => dioramaref02_trimmed.l0 k l (n : Int)) r ∧ Nn r ∧ dv 1000000000 r = dv 1000000000 l ∧ r.length ≤ n := by
  intro n
  induction n with
  | zero =>
    intro _ hv
    refine ⟨[], Ev.step (f := fun _ => some []) (fun k => ?_) (Ev.now _), Cn.nil _, by rw [← hv]; rfl, Nat.le_refl _⟩
    simp [dioramaref02_trimmed.l0]
  | succ n ih =>
    intro hn hv
    have hw : wrap64 (((n + 1 : Nat) : Int) - 1) = (n : Int) := by rw [w64 (by omega) (by omega)]; omega
    by_cases hz : l.getD n 0 = 0
    · obtain ⟨r, he, hc, hr, hlr⟩ := ih (by omega) (by rw [← hv] ; rw [dv_take_succ', hz]; omega)
      refine ⟨r, Ev.step (fun k => ?_) he, hc, hr, by omega⟩
      simp only [dioramaref02_trimmed.l0, hw, rd_nat]
      rw [if_pos (by omega), if_pos (by omega), if_pos (by omega), if_pos hz]
    · refine ⟨l.take (n + 1), Ev.step (f := fun _ => some (l.take (n + 1))) (fun k => ?_) (Ev.now _), ⟨hd.take _, top_of_getD ?_⟩, hv, by simp; omega⟩
      · simp only [dioramaref02_trimmed.l0, hw, rd_nat]
        rw [if_pos (by omega), if_pos (by omega), if_pos (by omega), if_neg hz, if_pos (by omega), if_pos (by omega), Int.toNat_natCast]
      · rw [List.length_take, Nat.min_eq_left (by omega)]
        simp only [Nat.add_sub_cancel]
        rw [List.getD_eq_getElem?_getD, List.getElem?_take_of_lt (by omega), ← List.getD_eq_getElem?_getD]
        exact hz
theorem trimmed_f (l : List Int) (hd : Dg 1000000000 l) (hl : l.length ≤ 1000000) : ∃ r, Ev (fun k => dioramaref02_trimmed.f k l) r ∧ Nn r ∧ dv 1000000000 r = dv 1000000000 l ∧ r.length ≤ l.length :=
  trimmed_l l hd hl l.length (Nat.le_refl _) (by rw [List.take_length])

/-! ### comparison -/
theorem cmp1 {x y : Int} (h : x < y) : Nd.cmpI x y = -1 := by unfold Nd.cmpI; rw [if_pos h]
theorem cmp2 {x y : Int} (h : y < x) : Nd.cmpI x y = 1 := by unfold Nd.cmpI; rw [if_neg (by omega), if_pos h]
theorem cmp0 {x y : Int} (h : x = y) : Nd.cmpI x y = 0 := by unfold Nd.cmpI; rw [if_neg (by omega), if_neg (by omega)]
theorem compare_l (a b : List Int) (ha : Dg 1000000000 a) (hb : Dg 1000000000 b) (hl : a.length = b.length) (hn : a.length ≤ 1000000) : ∀ i : Nat, i ≤ a.length → dv 1000000000 (a.drop i) = dv 1000000000 (b.drop i) →
    Ev (fun k => dioramaref02_Compare.l0 k a b ((i : Int) - 1)) (Nd.cmpI (dv 1000000000 a) (dv 1000000000 b)) := by
  intro i
  induction i with
  | zero =>
    intro _ h
    refine Ev.step (f := fun _ => some 0) (fun k => ?_) (by rw [cmp0 (by simpa using h)]; exact Ev.now _)
    simp [dioramaref02_Compare.l0]
  | succ i ih =>
    intro hi h
    have e : (((i + 1 : Nat) : Int) - 1) = (i : Int) := by omega
    have hw : wrap64 ((i : Int) - 1) = (i : Int) - 1 := w64 (by omega) (by omega)
    rw [e]
    rcases Int.lt_trichotomy (a.getD i 0) (b.getD i 0) with h1 | h1 | h1
    · rw [cmp1 (dv_less (by decide) ha hb hl i (by omega) h h1)]
      refine Ev.step (f := fun _ => some (-1)) (fun k => ?_) (Ev.now _)
      simp only [dioramaref02_Compare.l0, rd_nat]
      rw [if_pos (by omega), if_pos (by omega), if_pos (by omega), if_pos (by omega), if_pos h1]
    · refine Ev.step (fun k => ?_) (ih (by omega) (by rw [dv_drop _ a i (by omega), dv_drop _ b i (by omega), h1, h]))
      simp only [dioramaref02_Compare.l0, rd_nat, hw]
      rw [if_pos (by omega), if_pos (by omega), if_pos (by omega), if_pos (by omega), if_neg (by omega), if_neg (by omega)]
    · rw [cmp2 (dv_less (by decide) hb ha hl.symm i (by omega) h.symm h1)]
      refine Ev.step (f := fun _ => some 1) (fun k => ?_) (Ev.now _)
      simp only [dioramaref02_Compare.l0, rd_nat]
      rw [if_pos (by omega), if_pos (by omega), if_pos (by omega), if_pos (by omega), if_neg (by omega), if_pos h1]
theorem compare_f (a b : List Int) (ha : Nn a) (hb : Nn b) (hn : a.length ≤ 1000000) (hm : b.length ≤ 1000000) : Ev (fun k => dioramaref02_Compare.f k a b) (Nd.cmpI (dv 1000000000 a) (dv 1000000000 b)) := by
  by_cases hl : a.length = b.length
  · have h := compare_l a b ha.dg hb.dg hl hn a.length (Nat.le_refl _) (by rw [List.drop_of_length_le (Nat.le_refl _), List.drop_of_length_le (by omega)])
    refine Ev.congr (fun k => ?_) h
    simp only [dioramaref02_Compare.f]
    rw [if_pos (by omega), w64 (by omega) (by omega)]
  · by_cases h1 : a.length < b.length
    · rw [cmp1 (dv_len (by decide) ha.dg hb h1)]
      refine Ev.congr (f := fun _ => some (-1)) (fun k => ?_) (Ev.now _)
      simp only [dioramaref02_Compare.f]
      rw [if_neg (by omega), if_pos (by omega)]
    · rw [cmp2 (dv_len (by decide) hb.dg ha (by omega))]
      refine Ev.congr (f := fun _ => some 1) (fun k => ?_) (Ev.now _)
      simp only [dioramaref02_Compare.f]
      rw [if_neg (by omega), if_neg (by omega)]
end Go.Proofs.Ytdginjpppgfdaaa.Pa

namespace Go.Proofs.Ytdginjpppgfdaaa.Pb
open Go.RowKit Go.Proofs.Ytdginjpppgfdaaa.P Go.Proofs.YtdginjpppgfdaaaW.PrintWords Go.Proofs.YtdginjpppgfdaaaW.PrintLast Go.Proofs.Ytdginjpppgfdaaa.Ml Go.Proofs.Ytdginjpppgfdaaa.Mn Go.Proofs.Ytdginjpppgfdaaa.Pa
set_option linter.unusedVariables false
set_option linter.unusedSimpArgs false

theorem nv_take_all {l : List Int} {n : Nat} (h : l.length ≤ n) : dv 1000000000 (l.take n) = dv 1000000000 l := by rw [List.take_of_length_le h]
theorem dg_snoc {l : List Int} {x : Int} (h : Dg 1000000000 l) (h0 : 0 ≤ x) (h1 : x < 1000000000) : Dg 1000000000 (l ++ [x]) := h.append (Dg.cons h0 h1 (Dg.nil _))
theorem w1 {i : Nat} (h : i ≤ 10000000) : wrap64 ((i : Int) + 1) = ((i + 1 : Nat) : Int) := by rw [w64 (by omega) (by omega)]; omega

/-! ### differences -/
theorem minus_l (a b : List Int) (ha : Dg 1000000000 a) (hb : Dg 1000000000 b) (hn : a.length ≤ 1000000) (hlb : b.length ≤ a.length) (hle : dv 1000000000 b ≤ dv 1000000000 a) :
    ∀ (d i : Nat) (out : List Int) (c : Int), i + d = a.length → out.length = i → Dg 1000000000 out → 0 ≤ c → c ≤ 1 → dv 1000000000 out = dv 1000000000 (a.take i) - dv 1000000000 (b.take i) + c * pw 1000000000 i →
    ∃ r, Ev (fun k => dioramaref02_Minus.l0 k a b out c (i : Int)) r ∧ Nn r ∧ dv 1000000000 r = dv 1000000000 a - dv 1000000000 b ∧ r.length ≤ a.length := by
  intro d
  induction d with
  | zero =>
    intro i out c hi hl hd h0 h1 hv
    obtain ⟨r, he, hc, hr, hlr⟩ := trimmed_f out hd (by omega)
    have hlt := dv_lt (by decide) hd
    rw [hl] at hlt
    rw [nv_take_all (by omega), nv_take_all (by omega)] at hv
    have c0 : c = 0 := by
      rcases (show c = 0 ∨ c = 1 by omega) with h | h
      · exact h
      · rw [h] at hv
        omega
    refine ⟨r, Ev.step (f := fun k => (dioramaref02_trimmed.f k out).bind fun t => some t) (fun k => ?_) (Ev.bind he (Ev.now _)), hc, by rw [hr, hv, c0]; omega, by omega⟩
    simp only [dioramaref02_Minus.l0]
    rw [if_neg (by omega)]
  | succ d ih =>
    intro i out c hi hl hd h0 h1 hv
    have hx := ha.getD (by decide) i
    have hy := hb.getD (by decide) i
    have e1 := dv_take_succ' 1000000000 a i
    have e2 := dv_take_succ' 1000000000 b i
    have e3 := pw_succ 1000000000 i
    generalize hxv : a.getD i 0 = x at *
    generalize hyv : b.getD i 0 = y at *
    have hw : wrap64 (wrap64 (x - y) - c) = x - y - c := by rw [w64 (x := x - y) (by omega) (by omega), w64 (by omega) (by omega)]
    have hw2 : wrap64 (x - y - c + 1000000000) = x - y - c + 1000000000 := w64 (by omega) (by omega)
    by_cases hneg : x - y - c < 0
    · obtain ⟨r, he, h⟩ := ih (i + 1) (out ++ [x - y - c + 1000000000]) 1 (by omega) (by simp [hl]) (dg_snoc hd (by omega) (by omega)) (by decide) (by decide) (by
        rw [dv_snoc, hl, hv, e1, e2, e3]
        grind)
      refine ⟨r, Ev.step (fun k => ?_) he, h⟩
      simp only [dioramaref02_Minus.l0]
      rw [if_pos (by omega), digit_f, digit_f, hxv, hyv]
      simp only [Option.bind_some, hw, hw2]
      rw [if_pos hneg, if_pos (by omega), w1 (by omega)]
    · obtain ⟨r, he, h⟩ := ih (i + 1) (out ++ [x - y - c]) 0 (by omega) (by simp [hl]) (dg_snoc hd (by omega) (by omega)) (by decide) (by decide) (by
        rw [dv_snoc, hl, hv, e1, e2]
        grind)
      refine ⟨r, Ev.step (fun k => ?_) he, h⟩
      simp only [dioramaref02_Minus.l0]
      rw [if_pos (by omega), digit_f, digit_f, hxv, hyv]
      simp only [Option.bind_some, hw, hw2]
      rw [if_neg hneg, if_pos (by omega), w1 (by omega)]
theorem len_le {a b : List Int} (ha : Nn a) (hb : Nn b) (h : dv 1000000000 b ≤ dv 1000000000 a) : b.length ≤ a.length := by
  refine Nat.le_of_not_lt fun hl => ?_
  have := dv_len (by decide) ha.dg hb hl
  omega
theorem minus_f (a b : List Int) (ha : Nn a) (hb : Nn b) (hn : a.length ≤ 1000000) (hle : dv 1000000000 b ≤ dv 1000000000 a) : ∃ r, Ev (fun k => dioramaref02_Minus.f k a b) r ∧ Nn r ∧ dv 1000000000 r = dv 1000000000 a - dv 1000000000 b ∧ r.length ≤ a.length :=
  minus_l a b ha.dg hb.dg hn (len_le ha hb hle) hle a.length 0 [] 0 (by omega) rfl (Dg.nil _) (by decide) (by decide) (by simp [dv])

/-! ### sums -/
theorem plus_l (a b : List Int) (ha : Nn a) (hb : Nn b) (hn : a.length ≤ 1000000) (hm : b.length ≤ 1000000) :
    ∀ (d i : Nat) (out : List Int) (c : Int), i + d = max a.length b.length + 1 → out.length = i → Dg 1000000000 out → 0 ≤ c → c ≤ 1 → (i ≤ max a.length b.length ∨ c = 0) → (i < a.length ∨ i < b.length ∨ 0 < c ∨ Top out) → dv 1000000000 out = dv 1000000000 (a.take i) + dv 1000000000 (b.take i) - c * pw 1000000000 i →
    ∃ r, Ev (fun k => dioramaref02_Plus.l0 k a b out c (i : Int)) r ∧ Nn r ∧ dv 1000000000 r = dv 1000000000 a + dv 1000000000 b ∧ r.length ≤ max a.length b.length + 1 := by
  intro d
  induction d with
  | zero =>
    intro i out c hi hl hd h0 h1 hic ht hv
    have c0 : c = 0 := by omega
    subst c0
    rw [nv_take_all (by omega), nv_take_all (by omega)] at hv
    refine ⟨out, Ev.step (f := fun k => dioramaref02_Plus.j1 k a b out 0 (i : Int) (decide ((0 : Int) > 0))) (fun k => ?_) (Ev.step (f := fun _ => some out) (fun k => ?_) (Ev.now _)), ⟨hd, ?_⟩, by rw [hv]; omega, by omega⟩
    · simp only [dioramaref02_Plus.l0]
      rw [if_neg (by omega), if_neg (by omega)]
    · simp [dioramaref02_Plus.j1]
    · rcases ht with h | h | h | h
      · omega
      · omega
      · omega
      · exact h
  | succ d ih =>
    intro i out c hi hl hd h0 h1 hic ht hv
    by_cases hgo : i < a.length ∨ i < b.length ∨ 0 < c
    · have hx := ha.dg.getD (by decide) i
      have hy := hb.dg.getD (by decide) i
      have e1 := dv_take_succ' 1000000000 a i
      have e2 := dv_take_succ' 1000000000 b i
      have e3 := pw_succ 1000000000 i
      have zx : a.length ≤ i → a.getD i 0 = 0 := fun h => getD_ge h
      have zy : b.length ≤ i → b.getD i 0 = 0 := fun h => getD_ge h
      have tx : i + 1 = a.length → a.getD i 0 ≠ 0 := fun h => by have := top_getD ha.top (by omega); rwa [← h, Nat.add_sub_cancel] at this
      have ty : i + 1 = b.length → b.getD i 0 ≠ 0 := fun h => by have := top_getD hb.top (by omega); rwa [← h, Nat.add_sub_cancel] at this
      generalize hxv : a.getD i 0 = x at *
      generalize hyv : b.getD i 0 = y at *
      have hw : wrap64 (wrap64 (x + y) + c) = x + y + c := by rw [w64 (x := x + y) (by omega) (by omega), w64 (by omega) (by omega)]
      have hw2 : wrap64 ((x + y + c) / 1000000000) = (x + y + c) / 1000000000 := w64 (by omega) (by omega)
      obtain ⟨r, he, h⟩ := ih (i + 1) (out ++ [(x + y + c) % 1000000000]) ((x + y + c) / 1000000000) (by omega) (by simp [hl]) (dg_snoc hd (by omega) (by omega)) (by omega) (by omega)
        (by
          by_cases hmx : i < max a.length b.length
          · left; omega
          · right
            rw [zx (by omega), zy (by omega)]
            omega)
        (by
          by_cases g1 : i + 1 < a.length
          · exact .inl g1
          · by_cases g2 : i + 1 < b.length
            · exact .inr (.inl g2)
            · by_cases g3 : 0 < (x + y + c) / 1000000000
              · exact .inr (.inr (.inl g3))
              · refine .inr (.inr (.inr (top_of_getD ?_)))
                have hne : (x + y + c) % 1000000000 ≠ 0 := by
                  rcases hgo with g | g | g
                  · have := tx (by omega); omega
                  · have := ty (by omega); omega
                  · omega
                simp only [List.length_append, List.length_singleton, Nat.add_sub_cancel]
                rw [List.getD_eq_getElem?_getD, List.getElem?_append_right (Nat.le_refl _)]
                simpa using hne)
        (by
          rw [dv_snoc, hl, hv, e1, e2, e3]
          have hdm := Int.mul_ediv_add_emod (x + y + c) 1000000000
          generalize (x + y + c) / 1000000000 = Q at *
          generalize (x + y + c) % 1000000000 = R at *
          have : R = x + y + c - 1000000000 * Q := by omega
          subst this
          grind)
      refine ⟨r, ?_, h⟩
      have hj : Ev (fun k => dioramaref02_Plus.j1 k a b out c (i : Int) true) r := by
        refine Ev.step (fun k => ?_) he
        simp only [dioramaref02_Plus.j1, if_true]
        rw [digit_f, digit_f, hxv, hyv]
        simp only [Option.bind_some, hw]
        rw [if_pos (by omega), tmodB (by omega), tdivB (by omega), hw2, w1 (by omega)]
      refine Ev.step (fun k => ?_) hj
      simp only [dioramaref02_Plus.l0]
      by_cases g1 : i < a.length
      · rw [if_pos (by omega)]
      · rw [if_neg (by omega)]
        by_cases g2 : i < b.length
        · rw [if_pos (by omega)]
        · rw [if_neg (by omega), decide_eq_true (show c > 0 by omega)]
    · have c0 : c = 0 := by omega
      subst c0
      rw [nv_take_all (by omega), nv_take_all (by omega)] at hv
      refine ⟨out, Ev.step (f := fun k => dioramaref02_Plus.j1 k a b out 0 (i : Int) (decide ((0 : Int) > 0))) (fun k => ?_) (Ev.step (f := fun _ => some out) (fun k => ?_) (Ev.now _)), ⟨hd, ?_⟩, by rw [hv]; omega, by omega⟩
      · simp only [dioramaref02_Plus.l0]
        rw [if_neg (by omega), if_neg (by omega)]
      · simp [dioramaref02_Plus.j1]
      · rcases ht with h | h | h | h
        · omega
        · omega
        · omega
        · exact h
theorem plus_f (a b : List Int) (ha : Nn a) (hb : Nn b) (hn : a.length ≤ 1000000) (hm : b.length ≤ 1000000) : ∃ r, Ev (fun k => dioramaref02_Plus.f k a b) r ∧ Nn r ∧ dv 1000000000 r = dv 1000000000 a + dv 1000000000 b ∧ r.length ≤ max a.length b.length + 1 :=
  plus_l a b ha hb hn hm (max a.length b.length + 1) 0 [] 0 (by omega) rfl (Dg.nil _) (by decide) (by decide) (.inr rfl) (.inr (.inr (.inr (fun h => absurd rfl h)))) (by simp [dv])

/-! ### products -/
theorem mulB {c x y o : Int} (hc0 : 0 ≤ c) (hc1 : c < 1000000000) (hx0 : 0 ≤ x) (hx1 : x < 1000000000) (hy0 : 0 ≤ y) (hy1 : y < 1000000000) (ho0 : 0 ≤ o) (ho1 : o < 1000000000) :
    wrap64 (wrap64 (o + wrap64 (x * y)) + c) = o + x * y + c ∧ 0 ≤ o + x * y + c ∧ wrap64 (Int.tdiv (o + x * y + c) 1000000000) = (o + x * y + c) / 1000000000 ∧ (o + x * y + c) / 1000000000 < 1000000000 := by
  obtain ⟨h1, h2⟩ := mul_lt_sq hx0 hx1 hy0 hy1
  have h2' : x * y ≤ 999999998000000001 := h2
  rw [w64 (x := x * y) (by omega) (by omega), w64 (x := o + x * y) (by omega) (by omega), w64 (x := o + x * y + c) (by omega) (by omega), tdivB (by omega), w64 (by omega) (by omega)]
  refine ⟨rfl, by omega, rfl, by omega⟩
set_option maxHeartbeats 1000000 in
theorem times_l1 (a b : List Int) (i : Nat) (x : Int) (hx : a.getD i 0 = x) (hi : i < a.length) (hb : Dg 1000000000 b) (hx0 : 0 ≤ x) (hx1 : x < 1000000000) (hn : a.length + b.length ≤ 1000000) :
    ∀ (d j : Nat) (out : List Int) (c : Int), j + d = b.length → Dg 1000000000 out → out.length = a.length + b.length → 0 ≤ c → c < 1000000000 → (∀ m, i + b.length ≤ m → out.getD m 0 = 0) →
    ∃ out', (∀ r, Ev (fun k => dioramaref02_Times.l0 k a b out' ((i + 1 : Nat) : Int)) r → Ev (fun k => dioramaref02_Times.l1 k a b out (i : Int) c (j : Int)) r) ∧ out'.length = a.length + b.length ∧ Dg 1000000000 out' ∧
      dv 1000000000 out' = dv 1000000000 out + c * pw 1000000000 (i + j) + x * dv 1000000000 (b.drop j) * pw 1000000000 (i + j) ∧ ∀ m, i + 1 + b.length ≤ m → out'.getD m 0 = 0 := by
  intro d
  induction d with
  | zero =>
    intro j out c hj hd hl h0 h1 hz
    obtain rfl : j = b.length := by omega
    have hend : ∀ (out : List Int) (j : Nat) r, b.length ≤ j → Ev (fun k => dioramaref02_Times.l0 k a b out ((i + 1 : Nat) : Int)) r → Ev (fun k => dioramaref02_Times.l1 k a b out (i : Int) 0 (j : Int)) r := by
      intro out j r hj he
      refine Ev.step (fun k => ?_) he
      simp only [dioramaref02_Times.l1]
      rw [if_neg (by omega), if_neg (by omega), w1 (by omega)]
    rw [List.drop_of_length_le (Nat.le_refl _)]
    by_cases hc : c = 0
    · subst hc
      exact ⟨out, fun r he => hend out _ r (Nat.le_refl _) he, hl, hd, by simp [dv], fun m hm => hz m (by omega)⟩
    · refine ⟨out.set (i + b.length) c, fun r he => ?_, by simp [hl], hd.set _ h0 h1, ?_, fun m hm => by rw [getD_set (by omega)]; exact hz m (by omega)⟩
      · have h2 := hend (out.set (i + b.length) c) (b.length + 1) r (by omega) he
        refine Ev.step (fun k => ?_) h2
        have hw : wrap64 ((i : Int) + (b.length : Int)) = ((i + b.length : Nat) : Int) := by rw [w64 (by omega) (by omega)]; omega
        obtain ⟨g1, g2, g3, g4⟩ := mulB (o := 0) (y := 0) h0 h1 hx0 hx1 (by decide) (by decide) (by decide) (by decide)
        have e0 : (0 : Int) + x * 0 + c = c := by omega
        rw [e0] at g1 g3
        simp only [dioramaref02_Times.l1, hw, rd_nat, hx, Int.toNat_natCast]
        rw [if_neg (by omega), if_pos (by omega), if_pos (by omega), if_pos (by omega), if_pos (by omega), if_pos (by omega), digit_f, getD_ge (Nat.le_refl _), hz _ (Nat.le_refl _)]
        simp only [Option.bind_some, g1, g3]
        rw [tmodB h0, Int.emod_eq_of_lt h0 h1, Int.ediv_eq_zero_of_lt h0 h1, w1 (by omega)]
      · rw [dv_set _ _ _ _ (by omega), hz _ (Nat.le_refl _)]
        simp [dv]
  | succ d ih =>
    intro j out c hj hd hl h0 h1 hz
    have hy := hb.getD (by decide) j
    have ho := hd.getD (by decide) (i + j)
    have c1 : (j : Int) < (b.length : Int) := by omega
    have c2 : 0 ≤ ((i + j : Nat) : Int) := by omega
    have c3 : ((i + j : Nat) : Int) < (out.length : Int) := by omega
    have c4 : 0 ≤ (i : Int) := by omega
    have c5 : (i : Int) < (a.length : Int) := by omega
    have c6 : i + j < out.length := by omega
    have c7 : j < b.length := by omega
    have hw : wrap64 ((i : Int) + (j : Int)) = ((i + j : Nat) : Int) := by rw [w64 (by omega) (by omega)]; omega
    have hw1 := w1 (i := j) (by omega)
    have HW := Aside0.mk (And.intro hw hw1)
    clear hw hw1
    generalize hyv : b.getD j 0 = y at *
    generalize hov : out.getD (i + j) 0 = o at *
    obtain ⟨g1, g2, g3, g4⟩ := mulB h0 h1 hx0 hx1 hy.1 hy.2 ho.1 ho.2
    have gm := Int.mul_ediv_add_emod (o + x * y + c) 1000000000
    have gr0 := Int.emod_nonneg (o + x * y + c) (show (1000000000 : Int) ≠ 0 by decide)
    have gr1 := Int.emod_lt_of_pos (o + x * y + c) (show (0 : Int) < 1000000000 by decide)
    have gq0 : 0 ≤ (o + x * y + c) / 1000000000 := Int.ediv_nonneg g2 (by decide)
    have gt := tmodB g2
    generalize (o + x * y + c) / 1000000000 = q at *
    generalize (o + x * y + c) % 1000000000 = r' at *
    have hs : r' + 1000000000 * q = c + (x * y + o) := by clear g1 g3 gt; omega
    have HG := Aside0.mk (And.intro g1 (And.intro g3 gt))
    clear g1 g3 gt gm
    obtain ⟨out', k1, k2, k3, k4, k5⟩ := ih (j + 1) (out.set (i + j) r') q (by omega) (hd.set _ gr0 gr1) (by simp [hl]) gq0 g4 (fun m hm => by rw [getD_set (by omega)]; exact hz m hm)
    refine ⟨out', fun r he => ?_, k2, k3, ?_, k5⟩
    · refine Ev.step (fun k => ?_) (k1 r he)
      simp only [dioramaref02_Times.l1, HW.out.1, rd_nat, hx, Int.toNat_natCast]
      rw [if_pos c1, if_pos c2, if_pos c3, if_pos c4, if_pos c5, digit_f, hyv, hov]
      simp only [Option.bind_some, HG.out.1, HG.out.2.1, HG.out.2.2, HW.out.2]
    · rw [k4, dv_set _ _ _ _ c6, hov, dv_drop 1000000000 b j c7, hyv, ← Nat.add_assoc, pw_succ]
      exact (mul_step hs).symm
theorem times_l0 (a b : List Int) (ha : Dg 1000000000 a) (hb : Dg 1000000000 b) (hn : a.length + b.length ≤ 1000000) :
    ∀ (d i : Nat) (out : List Int), i + d = a.length → Dg 1000000000 out → out.length = a.length + b.length → dv 1000000000 out = dv 1000000000 (a.take i) * dv 1000000000 b → (∀ m, i + b.length ≤ m → out.getD m 0 = 0) →
    ∃ r, Ev (fun k => dioramaref02_Times.l0 k a b out (i : Int)) r ∧ Nn r ∧ dv 1000000000 r = dv 1000000000 a * dv 1000000000 b ∧ r.length ≤ a.length + b.length := by
  intro d
  induction d with
  | zero =>
    intro i out hi hd hl hv hz
    obtain ⟨r, he, hc, hr, hlr⟩ := trimmed_f out hd (by omega)
    refine ⟨r, Ev.step (f := fun k => (dioramaref02_trimmed.f k out).bind fun t => some t) (fun k => ?_) (Ev.bind he (Ev.now _)), hc, by rw [hr, hv, nv_take_all (by omega)], by omega⟩
    simp only [dioramaref02_Times.l0]
    rw [if_neg (by omega)]
  | succ d ih =>
    intro i out hi hd hl hv hz
    have hx := ha.getD (by decide) i
    obtain ⟨out', k1, k2, k3, k4, k5⟩ := times_l1 a b i (a.getD i 0) rfl (by omega) hb hx.1 hx.2 hn b.length 0 out 0 (by omega) hd hl (by decide) (by decide) hz
    obtain ⟨r, he, h⟩ := ih (i + 1) out' (by omega) k3 k2 (by
      rw [k4, hv, dv_take_succ' _ a i]
      simp only [List.drop_zero, Nat.add_zero]
      grind) (fun m hm => k5 m (by omega))
    refine ⟨r, Ev.step (fun k => ?_) (k1 r he), h⟩
    simp only [dioramaref02_Times.l0]
    rw [if_pos (by omega)]
    rfl
theorem times_f (a b : List Int) (ha : Nn a) (hb : Nn b) (hn : a.length + b.length ≤ 1000000) : ∃ r, Ev (fun k => dioramaref02_Times.f k a b) r ∧ Nn r ∧ dv 1000000000 r = dv 1000000000 a * dv 1000000000 b ∧ r.length ≤ a.length + b.length := by
  have e1 : wrap64 ((a.length : Int) + (b.length : Int)) = ((a.length + b.length : Nat) : Int) := by rw [w64 (by omega) (by omega)]; omega
  obtain ⟨r, he, h⟩ := times_l0 a b ha.dg hb.dg hn a.length 0 (List.replicate (a.length + b.length) 0) (by omega) (Dg.replicate (by decide) _) (by simp) (by rw [dv_replicate]; simp [dv]) (fun m _ => by
    rw [List.getD_eq_getElem?_getD, List.getElem?_replicate]
    split <;> rfl)
  refine ⟨r, Ev.congr (fun k => ?_) he, h⟩
  simp only [dioramaref02_Times.f, e1, Int.toNat_natCast]
  rw [if_pos (by omega), if_pos (by omega)]
  rfl

/-! ### small numbers -/
theorem drop_le (l : List Int) (hd : Dg 1000000000 l) (i : Nat) : dv 1000000000 (l.drop i) ≤ dv 1000000000 l ∧ 0 ≤ dv 1000000000 (l.drop i) := by
  have h0 := dv_nonneg (by decide) (hd.drop i)
  refine ⟨?_, h0⟩
  by_cases hi : i ≤ l.length
  · have h1 := dv_split 1000000000 l i hi
    have h2 := dv_nonneg (by decide) (hd.take i)
    have h3 : 0 < pw 1000000000 i := pow_pos (by decide) i
    have h4 : 1 * dv 1000000000 (l.drop i) ≤ pw 1000000000 i * dv 1000000000 (l.drop i) := Int.mul_le_mul_of_nonneg_right (by omega) h0
    omega
  · rw [List.drop_of_length_le (by omega)]
    exact dv_nonneg (by decide) hd
theorem small_l (l : List Int) (hd : Dg 1000000000 l) (hn : l.length ≤ 1000000) (hs : dv 1000000000 l ≤ 9223372036854775807) : ∀ i : Nat, i ≤ l.length → Ev (fun k => dioramaref02_Small.l0 k l (dv 1000000000 (l.drop i)) ((i : Int) - 1)) (dv 1000000000 l, true) := by
  intro i
  induction i with
  | zero =>
    intro _
    refine Ev.step (f := fun _ => some (dv 1000000000 l, true)) (fun k => ?_) (Ev.now _)
    simp [dioramaref02_Small.l0]
  | succ i ih =>
    intro hi
    have e : (((i + 1 : Nat) : Int) - 1) = (i : Int) := by omega
    have h1 := dv_drop 1000000000 l i (by omega)
    have h2 := drop_le l hd i
    have h3 := drop_le l hd (i + 1)
    have hx := hd.getD (by decide) i
    rw [e]
    refine Ev.step (fun k => ?_) (ih (by omega))
    simp only [dioramaref02_Small.l0, rd_nat]
    rw [if_pos (by omega), if_pos (by omega), if_pos (by omega), w64 (x := _ * 1000000000) (by omega) (by omega), w64 (x := _ + _) (by omega) (by omega), w64 (x := (i : Int) - 1) (by omega) (by omega), h1]
    congr 1
    omega
theorem small_f (l : List Int) (most : Int) (hl : Nn l) (hn : l.length ≤ 1000000) (h0 : 0 ≤ most) (h1 : most ≤ 9223372036854775807) : Ev (fun k => dioramaref02_Small.f k l most) (if most < dv 1000000000 l then (0, false) else (dv 1000000000 l, true)) := by
  obtain ⟨r, he, hr, hv, hlr⟩ := of_f most h0 h1
  have hc := compare_f l r hl hr hn (by omega)
  rw [hv] at hc
  by_cases hb : most < dv 1000000000 l
  · rw [if_pos hb]
    rw [cmp2 hb] at hc
    exact Ev.bind he (Ev.bind hc (Ev.congr (f := fun _ => some (0, false)) (fun k => by simp) (Ev.now _)))
  · rw [if_neg hb]
    have hle : ¬ (Nd.cmpI (dv 1000000000 l) most > 0) := by
      unfold Nd.cmpI
      by_cases h2 : dv 1000000000 l < most
      · rw [if_pos h2]; decide
      · rw [if_neg h2, if_neg hb]; decide
    have h2 := small_l l hl.dg hn (by omega) l.length (Nat.le_refl _)
    rw [List.drop_of_length_le (Nat.le_refl _)] at h2
    refine Ev.bind he (Ev.bind hc (Ev.congr (fun k => ?_) h2))
    rw [if_neg hle, w64 (by omega) (by omega)]
    rfl

/-! ### quotients -/
theorem drop_set' {l : List Int} {i : Nat} {v : Int} : (l.set i v).drop (i + 1) = l.drop (i + 1) := by
  rw [List.drop_set]
  simp
theorem over_l1 (a b q rest : List Int) (i : Nat) (hb : Nn b) (hr : Nn rest) (hi : i < q.length) (hq : q.length ≤ 1000000) (hlb : b.length ≤ 100000) (hlr : rest.length ≤ 200000) (hbp : 0 < dv 1000000000 b) :
    ∀ (m : Nat) (low high : Int), high - low ≤ m → 0 ≤ low → low ≤ high → high ≤ 999999999 → low * dv 1000000000 b ≤ dv 1000000000 rest → dv 1000000000 rest < (high + 1) * dv 1000000000 b →
    ∃ t rest', 0 ≤ t ∧ t < 1000000000 ∧ Nn rest' ∧ dv 1000000000 rest = t * dv 1000000000 b + dv 1000000000 rest' ∧ dv 1000000000 rest' < dv 1000000000 b ∧ (∀ r, Ev (fun k => dioramaref02_Over.l0 k a b (q.set i t) rest' ((i : Int) - 1)) r → Ev (fun k => dioramaref02_Over.l1 k a b q rest (i : Int) low high) r) := by
  intro m
  induction m with
  | zero =>
    intro low high hm h0 h1 h2 hlo hhi
    obtain rfl : low = high := by omega
    obtain ⟨o, eo, ho, vo, lo⟩ := of_f low h0 (by omega)
    obtain ⟨p, ep, hp, vp, lp⟩ := times_f b o hb ho (by omega)
    have e1 : dv 1000000000 p = low * dv 1000000000 b := by rw [vp, vo, Int.mul_comm]
    obtain ⟨s, es, hs, vs, ls⟩ := minus_f rest p hr hp (by omega) (by omega)
    have e2 : (low + 1) * dv 1000000000 b = low * dv 1000000000 b + dv 1000000000 b := by rw [Int.add_mul]; omega
    refine ⟨low, s, h0, by omega, hs, by omega, by omega, fun r he => ?_⟩
    refine Ev.step (f := fun k => (dioramaref02_Of.f k low).bind fun t197 => ((dioramaref02_Times.f k b t197).bind fun t200 => ((dioramaref02_Minus.f k rest t200).bind fun t203 => (dioramaref02_Over.l0 k a b (q.set i low) t203 ((i : Int) - 1))))) (fun k => ?_) (Ev.bind eo (Ev.bind ep (Ev.bind es he)))
    simp only [dioramaref02_Over.l1, Int.toNat_natCast]
    rw [if_neg (by omega), if_pos (by omega), if_pos (by omega), w64 (by omega) (by omega)]
  | succ m ih =>
    intro low high hm h0 h1 h2 hlo hhi
    by_cases hlt : low < high
    · have hmid : wrap64 (Int.tdiv (wrap64 (wrap64 (low + high) + 1)) 2) = (low + high + 1) / 2 := by
        rw [w64 (x := low + high) (by omega) (by omega), w64 (x := low + high + 1) (by omega) (by omega), Int.tdiv_eq_ediv_of_nonneg (by omega), w64 (by omega) (by omega)]
      have hm1 : low < (low + high + 1) / 2 := by omega
      have hm2 : (low + high + 1) / 2 ≤ high := by omega
      generalize (low + high + 1) / 2 = mid at *
      obtain ⟨o, eo, ho, vo, lo⟩ := of_f mid (by omega) (by omega)
      obtain ⟨p, ep, hp, vp, lp⟩ := times_f b o hb ho (by omega)
      have e1 : dv 1000000000 p = mid * dv 1000000000 b := by rw [vp, vo, Int.mul_comm]
      have ec := compare_f p rest hp hr (by omega) (by omega)
      rw [e1] at ec
      by_cases hc : mid * dv 1000000000 b ≤ dv 1000000000 rest
      · obtain ⟨t, rest', g1, g2, g3, g4, g5, g6⟩ := ih mid high (by omega) (by omega) hm2 h2 hc hhi
        have hle : Nd.cmpI (mid * dv 1000000000 b) (dv 1000000000 rest) ≤ 0 := by
          unfold Nd.cmpI
          by_cases h2 : mid * dv 1000000000 b < dv 1000000000 rest
          · rw [if_pos h2]; decide
          · rw [if_neg h2, if_neg (by omega)]; decide
        refine ⟨t, rest', g1, g2, g3, g4, g5, fun r he => ?_⟩
        refine Ev.step (f := fun k => (dioramaref02_Of.f k mid).bind fun t206 => ((dioramaref02_Times.f k b t206).bind fun t209 => ((dioramaref02_Compare.f k t209 rest).bind fun t212 => (if t212 ≤ 0 then (dioramaref02_Over.l1 k a b q rest (i : Int) mid high) else (dioramaref02_Over.l1 k a b q rest (i : Int) low (wrap64 (mid - 1))))))) (fun k => ?_) (Ev.bind eo (Ev.bind ep (Ev.bind ec (Ev.congr (fun k => ?_) (g6 r he)))))
        · simp only [dioramaref02_Over.l1, hmid]
          rw [if_pos hlt]
        · rw [if_pos hle]
      · have hw : wrap64 (mid - 1) = mid - 1 := w64 (by omega) (by omega)
        obtain ⟨t, rest', g1, g2, g3, g4, g5, g6⟩ := ih low (mid - 1) (by omega) h0 (by omega) (by omega) hlo (by rw [Int.sub_add_cancel]; omega)
        have hle : ¬ Nd.cmpI (mid * dv 1000000000 b) (dv 1000000000 rest) ≤ 0 := by
          rw [cmp2 (by omega)]; decide
        refine ⟨t, rest', g1, g2, g3, g4, g5, fun r he => ?_⟩
        refine Ev.step (f := fun k => (dioramaref02_Of.f k mid).bind fun t206 => ((dioramaref02_Times.f k b t206).bind fun t209 => ((dioramaref02_Compare.f k t209 rest).bind fun t212 => (if t212 ≤ 0 then (dioramaref02_Over.l1 k a b q rest (i : Int) mid high) else (dioramaref02_Over.l1 k a b q rest (i : Int) low (wrap64 (mid - 1))))))) (fun k => ?_) (Ev.bind eo (Ev.bind ep (Ev.bind ec (Ev.congr (fun k => ?_) (g6 r he)))))
        · simp only [dioramaref02_Over.l1, hmid]
          rw [if_pos hlt]
        · rw [if_neg hle, hw]
    · exact ih low high (by omega) h0 h1 h2 hlo hhi
theorem over_l0 (a b : List Int) (ha : Dg 1000000000 a) (hb : Nn b) (hla : a.length ≤ 100000) (hlb : b.length ≤ 100000) (hbp : 0 < dv 1000000000 b) :
    ∀ (i : Nat) (q rest : List Int), i ≤ a.length → q.length = a.length → Dg 1000000000 q → Nn rest → dv 1000000000 rest < dv 1000000000 b → dv 1000000000 (a.drop i) = dv 1000000000 (q.drop i) * dv 1000000000 b + dv 1000000000 rest →
    ∃ r1 r2, Ev (fun k => dioramaref02_Over.l0 k a b q rest ((i : Int) - 1)) (r1, r2) ∧ Nn r1 ∧ Nn r2 ∧ dv 1000000000 a = dv 1000000000 r1 * dv 1000000000 b + dv 1000000000 r2 ∧ dv 1000000000 r2 < dv 1000000000 b ∧ r1.length ≤ a.length ∧ r2.length ≤ b.length := by
  have hlen : ∀ {l : List Int}, Nn l → dv 1000000000 l < dv 1000000000 b → l.length ≤ b.length := by
    intro l hl h
    refine Nat.le_of_not_lt fun h2 => ?_
    have := dv_len (by decide) hb.dg hl h2
    omega
  intro i
  induction i with
  | zero =>
    intro q rest _ hq dq hr hlt hv
    obtain ⟨r, he, hc, hvr, hlr⟩ := trimmed_f q dq (by omega)
    rw [List.drop_zero, List.drop_zero] at hv
    refine ⟨r, rest, Ev.step (f := fun k => (dioramaref02_trimmed.f k q).bind fun t => some (t, rest)) (fun k => ?_) (Ev.bind he (Ev.now _)), hc, hr, by rw [hvr]; exact hv, hlt, by omega, hlen hr hlt⟩
    simp [dioramaref02_Over.l0]
  | succ i ih =>
    intro q rest hi hq dq hr hlt hv
    have e : (((i + 1 : Nat) : Int) - 1) = (i : Int) := by omega
    have hx := ha.getD (by decide) i
    have hlr := hlen hr hlt
    obtain ⟨u, eu, hu, vu, lu⟩ := trimmed_f (a.getD i 0 :: rest) (Dg.cons hx.1 hx.2 hr.dg) (by simp; omega)
    have vu2 : dv 1000000000 u = a.getD i 0 + 1000000000 * dv 1000000000 rest := vu
    have r0 := dv_nonneg (by decide) hr.dg
    simp only [List.length_cons] at lu
    obtain ⟨t, rest', g1, g2, g3, g4, g5, g6⟩ := over_l1 a b q u i hb hu (by omega) (by omega) hlb (by omega) hbp 999999999 0 999999999 (by decide) (by decide) (by decide) (by decide) (by have := dv_nonneg (by decide) hu.dg ; omega) (by
      have : (1000000000 : Int) * (dv 1000000000 rest + 1) ≤ 1000000000 * dv 1000000000 b := Int.mul_le_mul_of_nonneg_left (by omega) (by decide)
      rw [vu2]
      omega)
    obtain ⟨r1, r2, he, h⟩ := ih (q.set i t) rest' (by omega) (by simpa using hq) (dq.set _ g1 g2) g3 g5 (by
      rw [dv_drop _ a i (by omega), dv_drop _ (q.set i t) i (by simp; omega), drop_set', getD_set_self (by omega), hv]
      have := vu2
      rw [g4] at this
      grind)
    refine ⟨r1, r2, ?_, h⟩
    rw [e]
    refine Ev.step (f := fun k => (dioramaref02_trimmed.f k (a.getD i 0 :: rest)).bind fun t193 => (dioramaref02_Over.l1 k a b q t193 (i : Int) 0 999999999)) (fun k => ?_) (Ev.bind eu (g6 _ he))
    simp only [dioramaref02_Over.l0, rd_nat, Option.bind_some, List.singleton_append, List.length_singleton]
    rw [if_pos (by omega), if_pos (by omega), if_pos (by omega), if_pos (by omega)]
theorem over_f (a b : List Int) (ha : Nn a) (hb : Nn b) (hla : a.length ≤ 100000) (hlb : b.length ≤ 100000) (hbp : 0 < dv 1000000000 b) :
    ∃ r1 r2, Ev (fun k => dioramaref02_Over.f k a b) (r1, r2) ∧ Nn r1 ∧ Nn r2 ∧ dv 1000000000 a = dv 1000000000 r1 * dv 1000000000 b + dv 1000000000 r2 ∧ dv 1000000000 r2 < dv 1000000000 b ∧ r1.length ≤ a.length ∧ r2.length ≤ b.length := by
  obtain ⟨r1, r2, he, h⟩ := over_l0 a b ha.dg hb hla hlb hbp a.length (List.replicate a.length 0) [] (Nat.le_refl _) (by simp) (Dg.replicate (by decide) _) (Cn.nil _) hbp (by rw [List.drop_of_length_le (Nat.le_refl _), List.drop_of_length_le (by simp)]; simp [dv])
  refine ⟨r1, r2, Ev.congr (fun k => ?_) he, h⟩
  simp only [dioramaref02_Over.f, Int.toNat_natCast]
  rw [if_pos (by omega), if_pos (by omega), w64 (by omega) (by omega)]
end Go.Proofs.Ytdginjpppgfdaaa.Pb

namespace Go.Proofs.Ytdginjpppgfdaaa.Fa
open Go.RowKit Go Go.Proofs.YtdginjpppgfdaaaW.PrintWords Go.Proofs.YtdginjpppgfdaaaW.PrintLast Go.Proofs.YtdginjpppgfdaaaW.PrintMore Go.Proofs.Ytdginjpppgfdaaa.Ml Go.Proofs.Ytdginjpppgfdaaa.Mn Go.Proofs.Ytdginjpppgfdaaa.Nd Go.Proofs.Ytdginjpppgfdaaa.P Go.Proofs.Ytdginjpppgfdaaa.Nc Go.Proofs.Ytdginjpppgfdaaa.Nb Go.Proofs.Ytdginjpppgfdaaa.Pa Go.Proofs.Ytdginjpppgfdaaa.Pb Go.Proofs.Ytdginjpppgfdaaa.Ea Go.Proofs.Ytdginjpppgfdaaa.Eb Go.Proofs.Ytdginjpppgfdaaa.Ee
set_option linter.unusedVariables false
set_option linter.unusedSimpArgs false

/-- A natural number in decimal digits. -/
def Dec (w : World) (v : Value) (z : Int) (n : Nat) : Prop := ∃ A c l, v = .slice A (List.length l) c ∧ l.length ≤ c ∧ Kd.C (Kd.int .i64) w A l.length l ∧ Nn l ∧ dv 1000000000 l = z ∧ l.length ≤ n
theorem Dec.below {w w' : World} {v : Value} {z : Int} {n : Nat} (h : Dec w v z n) (hb : Below w.heap.size w w') : Dec w' v z n := by
  obtain ⟨A, c, l, h1, h2, h3, h4⟩ := h
  exact ⟨A, c, l, h1, h2, Kd.C_below h3 hb, h4⟩
theorem Dec.mono {w : World} {v : Value} {z : Int} {n m : Nat} (h : Dec w v z n) (hm : n ≤ m) : Dec w v z m := by
  obtain ⟨A, c, l, h1, h2, h3, h4, h5, h6⟩ := h
  exact ⟨A, c, l, h1, h2, h3, h4, h5, by omega⟩
theorem Dec.nonneg {w : World} {v : Value} {z : Int} {n : Nat} (h : Dec w v z n) : 0 ≤ z := by
  obtain ⟨A, c, l, h1, h2, h3, h4, h5, h6⟩ := h
  rw [← h5]
  exact dv_nonneg (by decide) h4.dg
theorem Dec.ofR {w : World} {e base : Nat} {ok : Nat → Prop} {v : Value} {l : List Int} {z : Int} {n : Nat} (h : Kd.R (Kd.int .i64) e w base ok v l) (hn : Nn l) (hz : dv 1000000000 l = z) (hl : l.length ≤ n) : Dec w v z n := by
  obtain ⟨A, c, h1, h2, h3⟩ := Kd.R_reads h
  exact ⟨A, c, l, h1, h2, h3, hn, hz, hl⟩
/-- A call that makes a natural number. -/
def DecP (w : World) (z : Int) (n : Nat) (e : Ending) (w' : World) : Prop := ∃ A k c, e = .returned (.slice A k c) ∧ Dec w' (.slice A k c) z n ∧ Below w.heap.size w w'
theorem DecP.mk {w : World} {z : Int} {n : Nat} {e : Ending} {w' : World} {v : Value} (h1 : e = .returned v) (h2 : Dec w' v z n) (h3 : Below w.heap.size w w') : DecP w z n e w' := by
  obtain ⟨A, c, l, rfl, h⟩ := h2
  exact ⟨A, l.length, c, h1, ⟨A, c, l, rfl, h⟩, h3⟩
theorem Dec.len0 {w : World} {A : Option Addr} {k c : Nat} {z : Int} {n : Nat} (h : Dec w (.slice A k c) z n) : k = 0 ↔ z = 0 := by
  obtain ⟨A', c', l, h1, h2, h3, h4, h5, h6⟩ := h
  injection h1 with _ h1 _
  rw [h1, ← h5, dv_eq_zero (by decide) h4, List.length_eq_zero_iff]
theorem ofD_n (x : Int) (w : World) (h0 : 0 ≤ x) (h1 : x ≤ 9223372036854775807) : Calls Try.prog 55 #[.int .i64 x] w (DecP w x 3) := by
  obtain ⟨r, he, hn, hv, hl⟩ := of_f x h0 h1
  obtain ⟨k, hk⟩ := he.rounds
  exact (dioramaref02_Of.calls k x r w hk).mono fun e w' ⟨v, h1, h2, h3⟩ => DecP.mk h1 (Dec.ofR h2 hn hv hl) h3
theorem timesD_n {v1 v2 : Value} {a b : Int} {n m : Nat} (w : World) (h1 : Dec w v1 a n) (h2 : Dec w v2 b m) (hl : n + m ≤ 1000) : Calls Try.prog 75 #[v1, v2] w (DecP w (a * b) (n + m)) := by
  obtain ⟨A, c, l, rfl, k2, k3, k4, rfl, k6⟩ := h1
  obtain ⟨A', c', l', rfl, j2, j3, j4, rfl, j6⟩ := h2
  obtain ⟨r, he, hn, hv, hl⟩ := times_f l l' k4 j4 (by omega)
  obtain ⟨k, hk⟩ := he.rounds
  exact (dioramaref02_Times.calls k A c l A' c' l' r w k3 k2 j3 j2 hk).mono fun e w' ⟨v, h1, h2, h3⟩ => DecP.mk h1 (Dec.ofR h2 hn hv (by omega)) h3
theorem plusD_n {v1 v2 : Value} {a b : Int} {n m : Nat} (w : World) (h1 : Dec w v1 a n) (h2 : Dec w v2 b m) (hl : n + m ≤ 1000) : Calls Try.prog 81 #[v1, v2] w (DecP w (a + b) (n + m + 1)) := by
  obtain ⟨A, c, l, rfl, k2, k3, k4, rfl, k6⟩ := h1
  obtain ⟨A', c', l', rfl, j2, j3, j4, rfl, j6⟩ := h2
  obtain ⟨r, he, hn, hv, hl⟩ := plus_f l l' k4 j4 (by omega) (by omega)
  obtain ⟨k, hk⟩ := he.rounds
  exact (dioramaref02_Plus.calls k A c l A' c' l' r w k3 k2 j3 j2 hk).mono fun e w' ⟨v, h1, h2, h3⟩ => DecP.mk h1 (Dec.ofR h2 hn hv (by omega)) h3
theorem minusD_n {v1 v2 : Value} {a b : Int} {n m : Nat} (w : World) (h1 : Dec w v1 a n) (h2 : Dec w v2 b m) (hle : b ≤ a) (hl : n + m ≤ 1000) : Calls Try.prog 87 #[v1, v2] w (DecP w (a - b) (n + m + 1)) := by
  obtain ⟨A, c, l, rfl, k2, k3, k4, rfl, k6⟩ := h1
  obtain ⟨A', c', l', rfl, j2, j3, j4, rfl, j6⟩ := h2
  obtain ⟨r, he, hn, hv, hl⟩ := minus_f l l' k4 j4 (by omega) hle
  obtain ⟨k, hk⟩ := he.rounds
  exact (dioramaref02_Minus.calls k A c l A' c' l' r w k3 k2 j3 j2 hk).mono fun e w' ⟨v, h1, h2, h3⟩ => DecP.mk h1 (Dec.ofR h2 hn hv (by omega)) h3
theorem compareD_n {v1 v2 : Value} {a b : Int} {n m : Nat} (w : World) (h1 : Dec w v1 a n) (h2 : Dec w v2 b m) (hl : n + m ≤ 1000) : Calls Try.prog 86 #[v1, v2] w (ValP w (.int .i64 (cmpI a b))) := by
  obtain ⟨A, c, l, rfl, k2, k3, k4, rfl, k6⟩ := h1
  obtain ⟨A', c', l', rfl, j2, j3, j4, rfl, j6⟩ := h2
  obtain ⟨k, hk⟩ := (compare_f l l' k4 j4 (by omega) (by omega)).rounds
  exact (dioramaref02_Compare.calls k A c l A' c' l' _ w k3 k2 j3 j2 hk).mono fun e w' ⟨h1, h2⟩ => ⟨h1, Drawn0.below h2⟩
def OvP (w : World) (a b : Int) (n m : Nat) (e : Ending) (w' : World) : Prop := ∃ A k c A' k' c', e = .returned (.tuple #[.slice A k c, .slice A' k' c']) ∧ Dec w' (.slice A k c) (a / b) n ∧ Dec w' (.slice A' k' c') (a % b) m ∧ Below w.heap.size w w'
theorem OvP.mk {w : World} {a b : Int} {n m : Nat} {e : Ending} {w' : World} {v1 v2 : Value} (h1 : e = .returned (.tuple #[v1, v2])) (h2 : Dec w' v1 (a / b) n) (h3 : Dec w' v2 (a % b) m) (h4 : Below w.heap.size w w') : OvP w a b n m e w' := by
  obtain ⟨A, c, l, rfl, h⟩ := h2
  obtain ⟨A', c', l', rfl, h'⟩ := h3
  exact ⟨A, l.length, c, A', l'.length, c', h1, ⟨A, c, l, rfl, h⟩, ⟨A', c', l', rfl, h'⟩, h4⟩
theorem overD_n {v1 v2 : Value} {a b : Int} {n m : Nat} (w : World) (h1 : Dec w v1 a n) (h2 : Dec w v2 b m) (hb : 0 < b) (hl : n + m ≤ 1000) : Calls Try.prog 74 #[v1, v2] w (OvP w a b n m) := by
  obtain ⟨A, c, l, rfl, k2, k3, k4, rfl, k6⟩ := h1
  obtain ⟨A', c', l', rfl, j2, j3, j4, rfl, j6⟩ := h2
  obtain ⟨r1, r2, he, hn1, hn2, hv, hlt, hl1, hl2⟩ := over_f l l' k4 j4 (by omega) (by omega) hb
  obtain ⟨k, hk⟩ := he.rounds
  have h0 := dv_nonneg (by decide) hn2.dg
  have q1 : dv 1000000000 l / dv 1000000000 l' = dv 1000000000 r1 := by
    rw [hv, Int.add_comm, Int.add_mul_ediv_right _ _ (by omega), Int.ediv_eq_zero_of_lt h0 hlt]; omega
  have q2 : dv 1000000000 l % dv 1000000000 l' = dv 1000000000 r2 := by
    rw [hv, Int.add_comm, Int.add_mul_emod_self_right, Int.emod_eq_of_lt h0 hlt]
  exact (dioramaref02_Over.calls k A c l A' c' l' r1 r2 w k3 k2 j3 j2 hk).mono fun e w' ⟨v1, v2, h1, h2, h3, h4⟩ => OvP.mk h1 (Dec.ofR h2 hn1 q1.symm (by omega)) (Dec.ofR h3 hn2 q2.symm (by omega)) h4
theorem smallD_n {v1 : Value} {a most : Int} {n : Nat} (w : World) (h1 : Dec w v1 a n) (h0 : 0 ≤ most) (hm : most ≤ 9223372036854775807) (hl : n ≤ 1000) : Calls Try.prog 80 #[v1, .int .i64 most] w (fun e w' => e = .returned (.tuple #[.int .i64 (if most < a then 0 else a), .bool (!decide (most < a))]) ∧ Below w.heap.size w w') := by
  obtain ⟨A, c, l, rfl, k2, k3, k4, rfl, k6⟩ := h1
  have he := small_f l most k4 (by omega) h0 hm
  by_cases hb : most < dv 1000000000 l
  · rw [if_pos hb] at he ⊢
    obtain ⟨k, hk⟩ := he.rounds
    rw [decide_eq_true hb]
    exact (dioramaref02_Small.calls k A c l most _ _ w k3 k2 hk).mono fun e w' ⟨h1, h2⟩ => ⟨h1, h2⟩
  · rw [if_neg hb] at he ⊢
    obtain ⟨k, hk⟩ := he.rounds
    rw [decide_eq_false hb]
    exact (dioramaref02_Small.calls k A c l most _ _ w k3 k2 hk).mono fun e w' ⟨h1, h2⟩ => ⟨h1, h2⟩
theorem sizeD_n (x : Int) (w : World) (h0 : -9223372036854775807 ≤ x) (h1 : x ≤ 9223372036854775807) : Calls Try.prog 54 #[.int .i64 x] w (DecP w (x.natAbs : Int) 3) := by
  by_cases hx : x < 0
  · have hw : wrap64 (-x) = -x := w64 (by omega) (by omega)
    have HC := Aside0.mk (ofD_n (-x) w (by omega) (by omega))
    have HE := Aside0.mk (show -x = (x.natAbs : Int) by omega)
    go_enter Try.func54, Try.ntmps54
    go_wp2_with fail
    refine HC.out.mono ?_
    rintro e w2 ⟨A, k, c, rfl, hD, hb⟩
    go_wp2_with fail
    go_ret
    exact ⟨A, k, c, rfl, HE.out ▸ hD, hb⟩
  · have HC := Aside0.mk (ofD_n x w (by omega) (by omega))
    have HE := Aside0.mk (show x = (x.natAbs : Int) by omega)
    go_enter Try.func54, Try.ntmps54
    go_wp2_with fail
    refine HC.out.mono ?_
    rintro e w2 ⟨A, k, c, rfl, hD, hb⟩
    go_wp2_with fail
    go_ret
    exact ⟨A, k, c, rfl, HE.out ▸ hD, hb⟩

/-! ### rational numbers -/
def ratObj (neg : Bool) (v1 v2 : Value) : Obj := .cells #[.bool neg, v1, v2] 60 (0, 0)
theorem rat_cells {w : World} {g : Nat} {neg : Bool} {v1 v2 : Value} (h : w.heap[g]? = some (ratObj neg v1 v2)) : w.cell? ⟨g, 0, none⟩ = some (.bool neg) ∧ w.cell? ⟨g, 1, none⟩ = some v1 ∧ w.cell? ⟨g, 2, none⟩ = some v2 ∧ w.frozen? ⟨g, 0, none⟩ = false ∧ w.frozen? ⟨g, 1, none⟩ = false ∧ w.frozen? ⟨g, 2, none⟩ = false :=
  ⟨(blk_cell h 0).trans rfl, (blk_cell h 1).trans rfl, (blk_cell h 2).trans rfl, blk_frozen h 0, blk_frozen h 1, blk_frozen h 2⟩
theorem blk_three {w : World} {g : Nat} {t : TypeId} {a b c x y z : Value} (h : w.heap[g]? = some (.cells #[a, b, c] t (0, 0))) : (((w.setCell ⟨g, 0, none⟩ x).setCell ⟨g, 1, none⟩ y).setCell ⟨g, 2, none⟩ z).heap[g]? = some (.cells #[x, y, z] t (0, 0)) :=
  blk_put (cs := #[x, y, c]) (blk_put (cs := #[x, b, c]) (blk_put (cs := #[a, b, c]) h 0 x rfl) 1 y rfl) 2 z rfl
/-- A call that answers a rational number: N by D. -/
def RatP (w : World) (N D : Int) (n : Nat) (e : Ending) (w' : World) : Prop := ∃ neg A k c A' k' c' a, e = .returned (.agg #[.bool neg, .slice A k c, .slice A' k' c']) ∧ Dec w' (.slice A k c) a n ∧ Dec w' (.slice A' k' c') D n ∧ sg neg a = N ∧ Below w.heap.size w w'
def nil0 : Value := .slice none 0 0
/-- The three cells of an answer, filled. -/
def fill3 (w : World) (g : Nat) (neg : Bool) (v1 v2 : Value) : World := ((w.setCell ⟨g, 0, none⟩ (.bool neg)).setCell ⟨g, 1, none⟩ v1).setCell ⟨g, 2, none⟩ v2
theorem fill3_heap (w : World) (g : Nat) (neg : Bool) (v1 v2 : Value) (k : Nat) (h : k ≠ g) : (fill3 w g neg v1 v2).heap[k]? = w.heap[k]? := by
  unfold fill3
  rw [Below.heap_setCell _ _ _ _ h, Below.heap_setCell _ _ _ _ h, Below.heap_setCell _ _ _ _ h]
theorem fill3_below {w0 w : World} {g : Nat} (h : Below w0.heap.size w0 w) (hg : w0.heap.size ≤ g) (neg : Bool) (v1 v2 : Value) : Below w0.heap.size w0 (fill3 w g neg v1 v2) :=
  ((h.setCell (p := ⟨g, 0, none⟩) hg _).setCell (p := ⟨g, 1, none⟩) hg _).setCell (p := ⟨g, 2, none⟩) hg _
theorem Dec.step {w w' : World} {v : Value} {z : Int} {n : Nat} (h : Dec w v z n) (hs : ∀ (a : Addr) (x : Int), w.cell? a = some (.int .i64 x) → w'.cell? a = some (.int .i64 x)) : Dec w' v z n := by
  obtain ⟨A, c, l, rfl, hc, ⟨h1, h2, h3⟩, h4⟩ := h
  refine ⟨A, c, l, rfl, hc, ⟨h1, h2, fun hp => ?_⟩, h4⟩
  obtain ⟨ad, ha, hcell⟩ := h3 hp
  refine ⟨ad, ha, fun j p hj => ?_⟩
  obtain ⟨cs, hl, hK, hcc⟩ := hcell j p hj
  have hK' : cs = [.int .i64 p] := hK
  subst hK'
  refine ⟨_, hl, hK, fun i u hu => ?_⟩
  match i, hu with
  | 0, hu =>
    simp at hu
    subst hu
    exact hs _ _ (hcc 0 _ rfl)
theorem Dec.fill {w : World} {v : Value} {z : Int} {n : Nat} (h : Dec w v z n) {g : Nat} {b : Bool} (hg : w.heap[g]? = some (ratObj b nil0 nil0)) (neg : Bool) (v1 v2 : Value) : Dec (fill3 w g neg v1 v2) v z n := by
  refine h.step (fun a x hc => ?_)
  by_cases e : a.block = g
  · exfalso
    unfold World.cell? at hc
    rw [e, hg] at hc
    simp only [ratObj, nil0] at hc
    by_cases hsp : a.spot.isSome
    · simp [hsp] at hc
    · rw [if_neg hsp] at hc
      match h0 : a.off with
      | 0 => rw [h0] at hc; simp at hc
      | 1 => rw [h0] at hc; simp at hc
      | 2 => rw [h0] at hc; simp at hc
      | k + 3 => rw [h0] at hc; simp at hc
  · rw [World.cell?_of_block (w := w) (fill3_heap w g neg v1 v2 a.block e)]
    exact hc
set_option maxHeartbeats 4000000 in
set_option maxRecDepth 100000 in
theorem ratOf_n (n d : Int) (w : World) (h0 : -9223372036854775807 ≤ n) (h1 : n ≤ 9223372036854775807) (h2 : 0 ≤ d) (h3 : d ≤ 9223372036854775807) : Calls Try.prog 52 #[.agg #[.int .i64 n, .int .i64 d]] w (fun e w' => ∃ A k c A' k' c', e = .returned (.agg #[.bool (decide (n < 0)), .slice A k c, .slice A' k' c']) ∧ Dec w' (.slice A k c) (n.natAbs : Int) 3 ∧ Dec w' (.slice A' k' c') d 3 ∧ Below w.heap.size w w') := by
  have hu := Try.underlying25
  have hu2 := Try.underlying60
  have e1 : (w.alloc (timeObj n d)).heap.size = w.heap.size + 1 := by simp
  have k2 := blk_new (w.alloc (timeObj n d)) (ratObj false nil0 nil0)
  rw [e1] at k2
  have hbw : Below w.heap.size w ((w.alloc (timeObj n d)).alloc (ratObj false nil0 nil0)) := below_alloc (below_alloc (Below.refl _ w) _) _
  have k1 := blk_alloc (blk_new w (timeObj n d)) (ratObj false nil0 nil0)
  generalize hW : (w.alloc (timeObj n d)).alloc (ratObj false nil0 nil0) = W at *
  have HW := Aside0.mk (And.intro hbw (And.intro k1 k2))
  have HH := Aside0.mk (And.intro (And.intro h0 h1) (And.intro h2 h3))
  clear hbw k1 k2 h0 h1 h2 h3
  go_enter Try.func52, Try.ntmps52
  go_wp2_with fail
  rw [show (w.alloc (.cells #[.int .i64 n, .int .i64 d] 25)).alloc (.cells #[.bool false, .slice none 0 0, .slice none 0 0] 60) = W from hW]
  obtain ⟨a0, a1, _, _⟩ := time_cells HW.out.2.1
  refine start_ (n := 11) (S := fun w' => w'.cell? ⟨w.heap.size, 0, none⟩ = some (.int .i64 n) ∧ w'.cell? ⟨w.heap.size, 1, none⟩ = some (.int .i64 d)) (ds := [10]) (bs 11 0) (by kernel_rfl) rfl rfl ⟨a0, a1⟩ (fun hHeld => ?_)
  refine pure_ (i := 0) (N := some 3) (v := ?_) (a' := ?_) (bs 11 1) rfl rfl (by kernel_rfl) (fun _ _ _ h => h) (Or.inl ⟨by rfl, ?_⟩) ?_ ?_; rotate_left; (· intro w'; go_simp; first | done | with_reducible rfl); rotate_left; (· simp only [Act.put, List.setIfInBounds_toArray, List.set_cons_zero, List.set_cons_succ, i64_w, i32_w]; rfl)
  refine pure_ (i := 3) (N := some 6) (v := ?_) (a' := ?_) (bs 11 9) rfl rfl (by kernel_rfl) (fun _ _ _ h => h) (Or.inl ⟨by rfl, ?_⟩) ?_ ?_; rotate_left; (· intro w'; go_simp; first | done | with_reducible rfl); rotate_left; (· simp only [Act.put, List.setIfInBounds_toArray, List.set_cons_zero, List.set_cons_succ, i64_w, i32_w]; rfl)
  refine pure_ (i := 6) (N := some 9) (v := ?_) (a' := ?_) (bs 11 73) rfl rfl (by kernel_rfl) (fun _ _ _ h => h) (Or.inl ⟨by rfl, ?_⟩) ?_ ?_; rotate_left; (· intro w'; go_simp; first | done | with_reducible rfl); rotate_left; (· simp only [Act.put, List.setIfInBounds_toArray, List.set_cons_zero, List.set_cons_succ, i64_w, i32_w]; rfl)
  refine take_ (i := 1) (N := some 4) (v := ?_) (a' := ?_) (bs 11 75) rfl rfl (by kernel_rfl) (fun _ _ _ h => h) (Or.inl ⟨by rfl, ?_⟩) hHeld ?_ ?_; rotate_left; (· rintro w' ⟨s0, s1⟩; go_simp; first | done | with_reducible rfl); rotate_left; (· simp only [Act.put, List.setIfInBounds_toArray, List.set_cons_zero, List.set_cons_succ, i64_w, i32_w]; rfl)
  refine pure_ (i := 2) (N := some 5) (v := ?_) (a' := ?_) (bs 11 79) rfl rfl (by kernel_rfl) (fun _ _ _ h => h) (Or.inl ⟨by rfl, ?_⟩) ?_ ?_; rotate_left; (· intro w'; go_simp; first | done | with_reducible rfl); rotate_left; (· simp only [Act.put, List.setIfInBounds_toArray, List.set_cons_zero, List.set_cons_succ, i64_w, i32_w]; rfl)
  refine take_ (i := 4) (N := some 7) (v := ?_) (a' := ?_) (bs 11 95) rfl rfl (by kernel_rfl) (fun _ _ _ h => h) (Or.inl ⟨by rfl, ?_⟩) hHeld ?_ ?_; rotate_left; (· rintro w' ⟨s0, s1⟩; go_simp; first | done | with_reducible rfl); rotate_left; (· simp only [Act.put, List.setIfInBounds_toArray, List.set_cons_zero, List.set_cons_succ, i64_w, i32_w]; rfl)
  refine take_ (i := 7) (N := some 10) (v := ?_) (a' := ?_) (bs 11 223) rfl rfl (by kernel_rfl) (fun _ _ _ h => h) (Or.inl ⟨by rfl, ?_⟩) hHeld ?_ ?_; rotate_left; (· rintro w' ⟨s0, s1⟩; go_simp; first | done | with_reducible rfl); rotate_left; (· simp only [Act.put, List.setIfInBounds_toArray, List.set_cons_zero, List.set_cons_succ, i64_w, i32_w]; rfl)
  refine one_ (i := 5) (N := some 8) (bs 11 255) rfl rfl (by kernel_rfl) (by decide) (fun K hK => ?_)
  refine goes_ Try.func54 (by kernel_rfl) rfl #[.int .i64 n] (by rfl) rfl rfl (by simp only [List.map_toArray, List.map_cons, List.map_nil]; rfl) ?_
  with_reducible refine (sizeD_n n W.drew HH.out.1.1 HH.out.1.2).mono ?_
  rintro e w4 ⟨A4, k4, c4, rfl, hD4, hb4⟩
  refine ⟨_, rfl, ?_⟩
  have hb4' := below_drew' hb4
  refine hK.out _ _ ⟨pw_cell_below hb4' a0, pw_cell_below hb4' a1⟩ (fun hHeld => ?_)
  clear hK K
  refine norm_ (a' := ?_) ?_ ?_; rotate_left; (· show Act.put _ (some 8) _ = _; simp only [Act.put, List.setIfInBounds_toArray, List.set_cons_zero, List.set_cons_succ, i64_w, i32_w]; rfl)
  refine one_ (i := 8) (N := some 11) (bs 11 511) rfl rfl (by kernel_rfl) (by decide) (fun K hK => ?_)
  refine goes_ Try.func55 (by kernel_rfl) rfl #[.int .i64 d] (by rfl) rfl rfl (by simp only [List.map_toArray, List.map_cons, List.map_nil]; rfl) ?_
  with_reducible refine (ofD_n d w4 HH.out.2.1 HH.out.2.2).mono ?_
  rintro e w5 ⟨A5, k5, c5, rfl, hD5, hb5⟩
  refine ⟨_, rfl, ?_⟩
  have hb45 := hb4'.trans (hb5.mono hb4'.size)
  refine hK.out _ _ ⟨pw_cell_below hb45 a0, pw_cell_below hb45 a1⟩ (fun hHeld => ?_)
  clear hK K
  refine norm_ (a' := ?_) ?_ ?_; rotate_left; (· show Act.put _ (some 11) _ = _; simp only [Act.put, List.setIfInBounds_toArray, List.set_cons_zero, List.set_cons_succ, i64_w, i32_w]; rfl)
  refine pure_ (i := 9) (N := some 12) (v := ?_) (a' := ?_) (bs 11 1023) rfl rfl (by kernel_rfl) (fun _ _ _ h => h) (Or.inl ⟨by rfl, ?_⟩) ?_ ?_; rotate_left; (· intro w'; go_simp; first | done | with_reducible rfl); rotate_left; (· simp only [Act.put, List.setIfInBounds_toArray, List.set_cons_zero, List.set_cons_succ, i64_w, i32_w]; rfl)
  refine last_ (i := 10) (N := none) (bs 11 2047) rfl rfl (by kernel_rfl) (by decide) (fun K hK => ?_)
  obtain ⟨r0, r1, r2, r3, r4, r5⟩ := rat_cells (blk_below HW.out.2.2 hb45)
  refine skip_ (w1 := ?_) (by rfl) rfl ?_ ?_
  rotate_left
  · (go_simp; with_reducible rfl)
  refine hK.out _ _ ?_
  clear hK K
  refine done_ (by kernel_rfl) ?_
  have HX := Aside0.mk (And.intro (hD4.below hb5) (And.intro hD5 (And.intro (HW.out.1.trans (hb45.mono HW.out.1.size)) (blk_below HW.out.2.2 hb45))))
  clear hD4 hD5 hb4 hb5 hb4' hb45
  go_wp2
  refine bodyPost_ret (results_single rfl (.cell (w.heap.size + 1) 60 #[.bool (decide (n < 0)), .slice A4 k4 c4, .slice A5 k5 c5] (0, 0) _ rfl (blk_three HX.out.2.2.2) Try.underlying60 rfl (by kernel_rfl) .nil)) rfl ?_
  exact ⟨A4, k4, c4, A5, k5, c5, rfl, HX.out.1.fill HX.out.2.2.2 _ _ _, HX.out.2.1.fill HX.out.2.2.2 _ _ _, fill3_below HX.out.2.2.1 (by simp) _ _ _⟩
end Go.Proofs.Ytdginjpppgfdaaa.Fa

namespace Go.Proofs.Ytdginjpppgfdaaa.Fb
open Go.RowKit Go Go.Proofs.YtdginjpppgfdaaaW.PrintWords Go.Proofs.YtdginjpppgfdaaaW.PrintLast Go.Proofs.YtdginjpppgfdaaaW.PrintMore Go.Proofs.Ytdginjpppgfdaaa.Ml Go.Proofs.Ytdginjpppgfdaaa.Mn Go.Proofs.Ytdginjpppgfdaaa.Nd Go.Proofs.Ytdginjpppgfdaaa.P Go.Proofs.Ytdginjpppgfdaaa.Nc Go.Proofs.Ytdginjpppgfdaaa.Nb Go.Proofs.Ytdginjpppgfdaaa.Ea Go.Proofs.Ytdginjpppgfdaaa.Eb Go.Proofs.Ytdginjpppgfdaaa.Ee Go.Proofs.Ytdginjpppgfdaaa.Fa
set_option linter.unusedVariables false
set_option linter.unusedSimpArgs false

/-- Two rational numbers boxed, and room for the answer. -/
structure Rq (w W : World) (na : Bool) (a1 a2 : Value) (nb : Bool) (b1 b2 : Value) : Prop where
  a : W.heap[w.heap.size]? = some (ratObj na a1 a2)
  b : W.heap[w.heap.size + 1]? = some (ratObj nb b1 b2)
  r : W.heap[w.heap.size + 1 + 1]? = some (ratObj false nil0 nil0)
  below : Below w.heap.size w W
theorem Rq.start (w : World) (na : Bool) (a1 a2 : Value) (nb : Bool) (b1 b2 : Value) : Rq w (((w.alloc (ratObj na a1 a2)).alloc (ratObj nb b1 b2)).alloc (ratObj false nil0 nil0)) na a1 a2 nb b1 b2 := by
  have e1 : (w.alloc (ratObj na a1 a2)).heap.size = w.heap.size + 1 := by simp
  have e2 : ((w.alloc (ratObj na a1 a2)).alloc (ratObj nb b1 b2)).heap.size = w.heap.size + 1 + 1 := by simp
  have k4 := blk_new ((w.alloc (ratObj na a1 a2)).alloc (ratObj nb b1 b2)) (ratObj false nil0 nil0)
  have k2 := blk_new (w.alloc (ratObj na a1 a2)) (ratObj nb b1 b2)
  have k1 := blk_new w (ratObj na a1 a2)
  rw [e2] at k4
  rw [e1] at k2
  exact ⟨blk_alloc (blk_alloc k1 _) _, blk_alloc k2 _, k4, below_alloc (below_alloc (below_alloc (Below.refl _ w) _) _) _⟩
theorem Rq.step {w W W2 : World} {na nb : Bool} {a1 a2 b1 b2 : Value} (h : Rq w W na a1 a2 nb b1 b2) (hb : Below W.heap.size W W2) : Rq w W2 na a1 a2 nb b1 b2 :=
  ⟨blk_below h.a hb, blk_below h.b hb, blk_below h.r hb, h.below.trans (hb.mono h.below.size)⟩
theorem Rq.cells {w W : World} {na nb : Bool} {a1 a2 b1 b2 : Value} (h : Rq w W na a1 a2 nb b1 b2) : W.cell? ⟨w.heap.size, 0, none⟩ = some (.bool na) ∧ W.cell? ⟨w.heap.size, 1, none⟩ = some a1 ∧ W.cell? ⟨w.heap.size, 2, none⟩ = some a2 ∧ W.cell? ⟨w.heap.size + 1, 0, none⟩ = some (.bool nb) ∧ W.cell? ⟨w.heap.size + 1, 1, none⟩ = some b1 ∧ W.cell? ⟨w.heap.size + 1, 2, none⟩ = some b2 := by
  obtain ⟨x0, x1, x2, _⟩ := rat_cells h.a
  obtain ⟨y0, y1, y2, _⟩ := rat_cells h.b
  exact ⟨x0, x1, x2, y0, y1, y2⟩
/-- The four natural numbers of two rational ones. -/
structure D4 (w : World) (a1 a2 b1 b2 : Value) (a da b db : Int) (n m : Nat) : Prop where
  a : Dec w a1 a n
  da : Dec w a2 da n
  b : Dec w b1 b m
  db : Dec w b2 db m
theorem D4.below {w w' : World} {a1 a2 b1 b2 : Value} {a da b db : Int} {n m : Nat} (h : D4 w a1 a2 b1 b2 a da b db n m) (hb : Below w.heap.size w w') : D4 w' a1 a2 b1 b2 a da b db n m :=
  ⟨h.a.below hb, h.da.below hb, h.b.below hb, h.db.below hb⟩
theorem sg_sum1 {na : Bool} {X Y : Int} : sg na (X + Y) = sg na X + sg na Y := by cases na <;> simp [sg] <;> omega
theorem sg_sum2 {na nb : Bool} {X Y : Int} (h : na ≠ nb) : sg na (X - Y) = sg na X + sg nb Y := by cases na <;> cases nb <;> simp [sg] at h ⊢ <;> omega
theorem sg_sum3 {na nb : Bool} {X Y : Int} (h : na ≠ nb) : sg nb (Y - X) = sg na X + sg nb Y := by cases na <;> cases nb <;> simp [sg] at h ⊢ <;> omega
set_option maxHeartbeats 8000000 in
set_option maxRecDepth 100000 in
theorem productR_n (na nb : Bool) (A1 A2 A3 A4 : Option Addr) (k1 c1 k2 c2 k3 c3 k4 c4 : Nat) (a da b db : Int) (n m : Nat) (w : World) (h : D4 w (.slice A1 k1 c1) (.slice A2 k2 c2) (.slice A3 k3 c3) (.slice A4 k4 c4) a da b db n m) (hl : n + m ≤ 900) :
    Calls Try.prog 64 #[.agg #[.bool na, .slice A1 k1 c1, .slice A2 k2 c2], .agg #[.bool nb, .slice A3 k3 c3, .slice A4 k4 c4]] w (fun e w' => ∃ A k c A' k' c', e = .returned (.agg #[.bool (na != nb), .slice A k c, .slice A' k' c']) ∧ Dec w' (.slice A k c) (a * b) (n + m) ∧ Dec w' (.slice A' k' c') (da * db) (n + m) ∧ Below w.heap.size w w') := by
  have hu := Try.underlying60
  have hQ := Aside0.mk (Rq.start w na (.slice A1 k1 c1) (.slice A2 k2 c2) nb (.slice A3 k3 c3) (.slice A4 k4 c4))
  have HD := Aside0.mk h
  clear h
  go_enter Try.func64, Try.ntmps64
  go_wp2_with fail
  generalize hW : World.alloc (World.alloc (World.alloc _ _) _) _ = W
  have HQ := Aside0.mk (show Rq w W na (.slice A1 k1 c1) (.slice A2 k2 c2) nb (.slice A3 k3 c3) (.slice A4 k4 c4) by rw [← hW]; exact hQ.out)
  have HD2 := Aside0.mk (HD.out.below HQ.out.below)
  clear hW hQ
  refine start_ (n := 17) (S := fun w' => w'.cell? ⟨w.heap.size, 0, none⟩ = some (.bool na) ∧ w'.cell? ⟨w.heap.size, 1, none⟩ = some (.slice A1 k1 c1) ∧ w'.cell? ⟨w.heap.size, 2, none⟩ = some (.slice A2 k2 c2) ∧ w'.cell? ⟨w.heap.size + 1, 0, none⟩ = some (.bool nb) ∧ w'.cell? ⟨w.heap.size + 1, 1, none⟩ = some (.slice A3 k3 c3) ∧ w'.cell? ⟨w.heap.size + 1, 2, none⟩ = some (.slice A4 k4 c4)) (ds := [16]) (bs 17 0) (by kernel_rfl) rfl rfl (HQ.out.step (below_drew' (Below.refl _ _))).cells (fun hHeld => ?_)
  refine pure_ (i := 0) (N := some 5) (v := ?_) (a' := ?_) (bs 17 1) rfl rfl (by kernel_rfl) (fun _ _ _ h => h) (Or.inl ⟨by rfl, ?_⟩) ?_ ?_; rotate_left; (· intro w'; go_simp; first | done | with_reducible rfl); rotate_left; (· simp only [Act.put, List.setIfInBounds_toArray, List.set_cons_zero, List.set_cons_succ, i64_w, i32_w]; rfl)
  refine pure_ (i := 2) (N := some 7) (v := ?_) (a' := ?_) (bs 17 5) rfl rfl (by kernel_rfl) (fun _ _ _ h => h) (Or.inl ⟨by rfl, ?_⟩) ?_ ?_; rotate_left; (· intro w'; go_simp; first | done | with_reducible rfl); rotate_left; (· simp only [Act.put, List.setIfInBounds_toArray, List.set_cons_zero, List.set_cons_succ, i64_w, i32_w]; rfl)
  refine pure_ (i := 5) (N := some 10) (v := ?_) (a' := ?_) (bs 17 37) rfl rfl (by kernel_rfl) (fun _ _ _ h => h) (Or.inl ⟨by rfl, ?_⟩) ?_ ?_; rotate_left; (· intro w'; go_simp; first | done | with_reducible rfl); rotate_left; (· simp only [Act.put, List.setIfInBounds_toArray, List.set_cons_zero, List.set_cons_succ, i64_w, i32_w]; rfl)
  refine pure_ (i := 7) (N := some 12) (v := ?_) (a' := ?_) (bs 17 165) rfl rfl (by kernel_rfl) (fun _ _ _ h => h) (Or.inl ⟨by rfl, ?_⟩) ?_ ?_; rotate_left; (· intro w'; go_simp; first | done | with_reducible rfl); rotate_left; (· simp only [Act.put, List.setIfInBounds_toArray, List.set_cons_zero, List.set_cons_succ, i64_w, i32_w]; rfl)
  refine pure_ (i := 10) (N := some 15) (v := ?_) (a' := ?_) (bs 17 1189) rfl rfl (by kernel_rfl) (fun _ _ _ h => h) (Or.inl ⟨by rfl, ?_⟩) ?_ ?_; rotate_left; (· intro w'; go_simp; first | done | with_reducible rfl); rotate_left; (· simp only [Act.put, List.setIfInBounds_toArray, List.set_cons_zero, List.set_cons_succ, i64_w, i32_w]; rfl)
  refine pure_ (i := 12) (N := some 17) (v := ?_) (a' := ?_) (bs 17 5285) rfl rfl (by kernel_rfl) (fun _ _ _ h => h) (Or.inl ⟨by rfl, ?_⟩) ?_ ?_; rotate_left; (· intro w'; go_simp; first | done | with_reducible rfl); rotate_left; (· simp only [Act.put, List.setIfInBounds_toArray, List.set_cons_zero, List.set_cons_succ, i64_w, i32_w]; rfl)
  refine take_ (i := 1) (N := some 6) (v := ?_) (a' := ?_) (bs 17 5287) rfl rfl (by kernel_rfl) (fun _ _ _ h => h) (Or.inl ⟨by rfl, ?_⟩) hHeld ?_ ?_; rotate_left; (· rintro w' ⟨s0, s1, s2, s3, s4, s5⟩; go_simp; first | done | with_reducible rfl); rotate_left; (· simp only [Act.put, List.setIfInBounds_toArray, List.set_cons_zero, List.set_cons_succ, i64_w, i32_w]; rfl)
  refine take_ (i := 3) (N := some 8) (v := ?_) (a' := ?_) (bs 17 5295) rfl rfl (by kernel_rfl) (fun _ _ _ h => h) (Or.inl ⟨by rfl, ?_⟩) hHeld ?_ ?_; rotate_left; (· rintro w' ⟨s0, s1, s2, s3, s4, s5⟩; go_simp; first | done | with_reducible rfl); rotate_left; (· simp only [Act.put, List.setIfInBounds_toArray, List.set_cons_zero, List.set_cons_succ, i64_w, i32_w]; rfl)
  refine pure_ (i := 4) (N := some 9) (v := ?_) (a' := ?_) (bs 17 5311) rfl rfl (by kernel_rfl) (fun _ _ _ h => h) (Or.inl ⟨by rfl, ?_⟩) ?_ ?_; rotate_left; (· intro w'; go_simp; first | done | with_reducible rfl); rotate_left; (· simp only [Act.put, List.setIfInBounds_toArray, List.set_cons_zero, List.set_cons_succ, i64_w, i32_w]; rfl)
  refine take_ (i := 6) (N := some 11) (v := ?_) (a' := ?_) (bs 17 5375) rfl rfl (by kernel_rfl) (fun _ _ _ h => h) (Or.inl ⟨by rfl, ?_⟩) hHeld ?_ ?_; rotate_left; (· rintro w' ⟨s0, s1, s2, s3, s4, s5⟩; go_simp; first | done | with_reducible rfl); rotate_left; (· simp only [Act.put, List.setIfInBounds_toArray, List.set_cons_zero, List.set_cons_succ, i64_w, i32_w]; rfl)
  refine take_ (i := 8) (N := some 13) (v := ?_) (a' := ?_) (bs 17 5631) rfl rfl (by kernel_rfl) (fun _ _ _ h => h) (Or.inl ⟨by rfl, ?_⟩) hHeld ?_ ?_; rotate_left; (· rintro w' ⟨s0, s1, s2, s3, s4, s5⟩; go_simp; first | done | with_reducible rfl); rotate_left; (· simp only [Act.put, List.setIfInBounds_toArray, List.set_cons_zero, List.set_cons_succ, i64_w, i32_w]; rfl)
  refine take_ (i := 11) (N := some 16) (v := ?_) (a' := ?_) (bs 17 7679) rfl rfl (by kernel_rfl) (fun _ _ _ h => h) (Or.inl ⟨by rfl, ?_⟩) hHeld ?_ ?_; rotate_left; (· rintro w' ⟨s0, s1, s2, s3, s4, s5⟩; go_simp; first | done | with_reducible rfl); rotate_left; (· simp only [Act.put, List.setIfInBounds_toArray, List.set_cons_zero, List.set_cons_succ, i64_w, i32_w]; rfl)
  refine take_ (i := 13) (N := some 18) (v := ?_) (a' := ?_) (bs 17 15871) rfl rfl (by kernel_rfl) (fun _ _ _ h => h) (Or.inl ⟨by rfl, ?_⟩) hHeld ?_ ?_; rotate_left; (· rintro w' ⟨s0, s1, s2, s3, s4, s5⟩; go_simp; first | done | with_reducible rfl); rotate_left; (· simp only [Act.put, List.setIfInBounds_toArray, List.set_cons_zero, List.set_cons_succ, i64_w, i32_w]; rfl)
  refine one_ (i := 9) (N := some 14) (bs 17 16383) rfl rfl (by kernel_rfl) (by decide) (fun K hK => ?_)
  refine goes_ Try.func75 (by kernel_rfl) rfl #[.slice A1 k1 c1, .slice A3 k3 c3] (by rfl) rfl rfl (by simp only [List.map_toArray, List.map_cons, List.map_nil]; rfl) ?_
  with_reducible refine (timesD_n W.drew (HD2.out.below (below_drew' (Below.refl _ _))).a (HD2.out.below (below_drew' (Below.refl _ _))).b (by omega)).mono ?_
  rintro e w4 ⟨A5, k5, c5, rfl, hD5, hb5⟩
  refine ⟨_, rfl, ?_⟩
  have hb5' := below_drew' hb5
  have hQ5 := HQ.out.step hb5'
  have hD25 := HD2.out.below hb5'
  refine hK.out _ _ hQ5.cells (fun hHeld => ?_)
  clear hK K
  refine norm_ (a' := ?_) ?_ ?_; rotate_left; (· show Act.put _ (some 14) _ = _; simp only [Act.put, List.setIfInBounds_toArray, List.set_cons_zero, List.set_cons_succ, i64_w, i32_w]; rfl)
  refine one_ (i := 14) (N := some 19) (bs 17 32767) rfl rfl (by kernel_rfl) (by decide) (fun K hK => ?_)
  refine goes_ Try.func75 (by kernel_rfl) rfl #[.slice A2 k2 c2, .slice A4 k4 c4] (by rfl) rfl rfl (by simp only [List.map_toArray, List.map_cons, List.map_nil]; rfl) ?_
  with_reducible refine (timesD_n w4 hD25.da hD25.db (by omega)).mono ?_
  rintro e w5 ⟨A6, k6, c6, rfl, hD6, hb6⟩
  refine ⟨_, rfl, ?_⟩
  have hQ6 := hQ5.step hb6
  refine hK.out _ _ hQ6.cells (fun hHeld => ?_)
  clear hK K
  refine norm_ (a' := ?_) ?_ ?_; rotate_left; (· show Act.put _ (some 19) _ = _; simp only [Act.put, List.setIfInBounds_toArray, List.set_cons_zero, List.set_cons_succ, i64_w, i32_w]; rfl)
  refine pure_ (i := 15) (N := some 20) (v := ?_) (a' := ?_) (bs 17 65535) rfl rfl (by kernel_rfl) (fun _ _ _ h => h) (Or.inl ⟨by rfl, ?_⟩) ?_ ?_; rotate_left; (· intro w'; go_simp; first | done | with_reducible rfl); rotate_left; (· simp only [Act.put, List.setIfInBounds_toArray, List.set_cons_zero, List.set_cons_succ, i64_w, i32_w]; rfl)
  refine last_ (i := 16) (N := none) (bs 17 131071) rfl rfl (by kernel_rfl) (by decide) (fun K hK => ?_)
  obtain ⟨r0, r1, r2, r3, r4, r5⟩ := rat_cells hQ6.r
  refine skip_ (w1 := ?_) (by rfl) rfl ?_ ?_
  rotate_left
  · (go_simp; with_reducible rfl)
  refine hK.out _ _ ?_
  clear hK K
  refine done_ (by kernel_rfl) ?_
  have HX := Aside0.mk (And.intro (hD5.below hb6) (And.intro hD6 hQ6))
  clear hD5 hD6 hb5 hb6 hb5' hQ5 hQ6 hD25
  go_wp2
  refine bodyPost_ret (results_single rfl (.cell (w.heap.size + 1 + 1) 60 #[.bool (na != nb), .slice A5 k5 c5, .slice A6 k6 c6] (0, 0) _ rfl (blk_three HX.out.2.2.r) Try.underlying60 rfl (by kernel_rfl) .nil)) rfl ?_
  exact ⟨A5, k5, c5, A6, k6, c6, rfl, HX.out.1.fill HX.out.2.2.r _ _ _, HX.out.2.1.fill HX.out.2.2.r _ _ _, fill3_below HX.out.2.2.below (by omega) _ _ _⟩
set_option maxHeartbeats 8000000 in
set_option maxRecDepth 100000 in
theorem sumR_n (na nb : Bool) (A1 A2 A3 A4 : Option Addr) (k1 c1 k2 c2 k3 c3 k4 c4 : Nat) (a da b db : Int) (n m : Nat) (w : World) (h : D4 w (.slice A1 k1 c1) (.slice A2 k2 c2) (.slice A3 k3 c3) (.slice A4 k4 c4) a da b db n m) (hl : n + m ≤ 300) :
    Calls Try.prog 58 #[.agg #[.bool na, .slice A1 k1 c1, .slice A2 k2 c2], .agg #[.bool nb, .slice A3 k3 c3, .slice A4 k4 c4]] w (RatP w (sg na (a * db) + sg nb (b * da)) (da * db) (2 * (n + m) + 1)) := by
  have hu := Try.underlying60
  have hQ := Aside0.mk (Rq.start w na (.slice A1 k1 c1) (.slice A2 k2 c2) nb (.slice A3 k3 c3) (.slice A4 k4 c4))
  have HD := Aside0.mk h
  clear h
  go_enter Try.func58, Try.ntmps58
  go_wp2_with fail
  generalize hW : World.alloc (World.alloc (World.alloc _ _) _) _ = W
  have HQ := Aside0.mk (show Rq w W na (.slice A1 k1 c1) (.slice A2 k2 c2) nb (.slice A3 k3 c3) (.slice A4 k4 c4) by rw [← hW]; exact hQ.out)
  have HD2 := Aside0.mk (HD.out.below HQ.out.below)
  clear hW hQ
  refine start_ (n := 12) (S := fun w' => w'.cell? ⟨w.heap.size, 0, none⟩ = some (.bool na) ∧ w'.cell? ⟨w.heap.size, 1, none⟩ = some (.slice A1 k1 c1) ∧ w'.cell? ⟨w.heap.size, 2, none⟩ = some (.slice A2 k2 c2) ∧ w'.cell? ⟨w.heap.size + 1, 0, none⟩ = some (.bool nb) ∧ w'.cell? ⟨w.heap.size + 1, 1, none⟩ = some (.slice A3 k3 c3) ∧ w'.cell? ⟨w.heap.size + 1, 2, none⟩ = some (.slice A4 k4 c4)) (ds := []) (bs 12 0) (by kernel_rfl) rfl rfl (HQ.out.step (below_drew' (Below.refl _ _))).cells (fun hHeld => ?_)
  refine pure_ (i := 0) (N := some 8) (v := ?_) (a' := ?_) (bs 12 1) rfl rfl (by kernel_rfl) (fun _ _ _ h => h) (Or.inl ⟨by rfl, ?_⟩) ?_ ?_; rotate_left; (· intro w'; go_simp; first | done | with_reducible rfl); rotate_left; (· simp only [Act.put, List.setIfInBounds_toArray, List.set_cons_zero, List.set_cons_succ, i64_w, i32_w]; rfl)
  refine pure_ (i := 2) (N := some 10) (v := ?_) (a' := ?_) (bs 12 5) rfl rfl (by kernel_rfl) (fun _ _ _ h => h) (Or.inl ⟨by rfl, ?_⟩) ?_ ?_; rotate_left; (· intro w'; go_simp; first | done | with_reducible rfl); rotate_left; (· simp only [Act.put, List.setIfInBounds_toArray, List.set_cons_zero, List.set_cons_succ, i64_w, i32_w]; rfl)
  refine pure_ (i := 5) (N := some 13) (v := ?_) (a' := ?_) (bs 12 37) rfl rfl (by kernel_rfl) (fun _ _ _ h => h) (Or.inl ⟨by rfl, ?_⟩) ?_ ?_; rotate_left; (· intro w'; go_simp; first | done | with_reducible rfl); rotate_left; (· simp only [Act.put, List.setIfInBounds_toArray, List.set_cons_zero, List.set_cons_succ, i64_w, i32_w]; rfl)
  refine pure_ (i := 7) (N := some 15) (v := ?_) (a' := ?_) (bs 12 165) rfl rfl (by kernel_rfl) (fun _ _ _ h => h) (Or.inl ⟨by rfl, ?_⟩) ?_ ?_; rotate_left; (· intro w'; go_simp; first | done | with_reducible rfl); rotate_left; (· simp only [Act.put, List.setIfInBounds_toArray, List.set_cons_zero, List.set_cons_succ, i64_w, i32_w]; rfl)
  refine take_ (i := 1) (N := some 9) (v := ?_) (a' := ?_) (bs 12 167) rfl rfl (by kernel_rfl) (fun _ _ _ h => h) (Or.inl ⟨by rfl, ?_⟩) hHeld ?_ ?_; rotate_left; (· rintro w' ⟨s0, s1, s2, s3, s4, s5⟩; go_simp; first | done | with_reducible rfl); rotate_left; (· simp only [Act.put, List.setIfInBounds_toArray, List.set_cons_zero, List.set_cons_succ, i64_w, i32_w]; rfl)
  refine take_ (i := 3) (N := some 11) (v := ?_) (a' := ?_) (bs 12 175) rfl rfl (by kernel_rfl) (fun _ _ _ h => h) (Or.inl ⟨by rfl, ?_⟩) hHeld ?_ ?_; rotate_left; (· rintro w' ⟨s0, s1, s2, s3, s4, s5⟩; go_simp; first | done | with_reducible rfl); rotate_left; (· simp only [Act.put, List.setIfInBounds_toArray, List.set_cons_zero, List.set_cons_succ, i64_w, i32_w]; rfl)
  refine take_ (i := 6) (N := some 14) (v := ?_) (a' := ?_) (bs 12 239) rfl rfl (by kernel_rfl) (fun _ _ _ h => h) (Or.inl ⟨by rfl, ?_⟩) hHeld ?_ ?_; rotate_left; (· rintro w' ⟨s0, s1, s2, s3, s4, s5⟩; go_simp; first | done | with_reducible rfl); rotate_left; (· simp only [Act.put, List.setIfInBounds_toArray, List.set_cons_zero, List.set_cons_succ, i64_w, i32_w]; rfl)
  refine take_ (i := 8) (N := some 16) (v := ?_) (a' := ?_) (bs 12 495) rfl rfl (by kernel_rfl) (fun _ _ _ h => h) (Or.inl ⟨by rfl, ?_⟩) hHeld ?_ ?_; rotate_left; (· rintro w' ⟨s0, s1, s2, s3, s4, s5⟩; go_simp; first | done | with_reducible rfl); rotate_left; (· simp only [Act.put, List.setIfInBounds_toArray, List.set_cons_zero, List.set_cons_succ, i64_w, i32_w]; rfl)
  refine one_ (i := 4) (N := some 12) (bs 12 511) rfl rfl (by kernel_rfl) (by decide) (fun K hK => ?_)
  refine goes_ Try.func75 (by kernel_rfl) rfl #[.slice A1 k1 c1, .slice A4 k4 c4] (by rfl) rfl rfl (by simp only [List.map_toArray, List.map_cons, List.map_nil]; rfl) ?_
  with_reducible refine (timesD_n W.drew (HD2.out.below (below_drew' (Below.refl _ _))).a (HD2.out.below (below_drew' (Below.refl _ _))).db (by omega)).mono ?_
  rintro e w4 ⟨A5, k5, c5, rfl, hD5, hb5⟩
  refine ⟨_, rfl, ?_⟩
  have hb5' := below_drew' hb5
  have hQ5 := HQ.out.step hb5'
  have hD25 := HD2.out.below hb5'
  refine hK.out _ _ hQ5.cells (fun hHeld => ?_)
  clear hK K
  refine norm_ (a' := ?_) ?_ ?_; rotate_left; (· show Act.put _ (some 12) _ = _; simp only [Act.put, List.setIfInBounds_toArray, List.set_cons_zero, List.set_cons_succ, i64_w, i32_w]; rfl)
  refine one_ (i := 9) (N := some 17) (bs 12 1023) rfl rfl (by kernel_rfl) (by decide) (fun K hK => ?_)
  refine goes_ Try.func75 (by kernel_rfl) rfl #[.slice A3 k3 c3, .slice A2 k2 c2] (by rfl) rfl rfl (by simp only [List.map_toArray, List.map_cons, List.map_nil]; rfl) ?_
  with_reducible refine (timesD_n w4 hD25.b hD25.da (by omega)).mono ?_
  rintro e w5 ⟨A6, k6, c6, rfl, hD6, hb6⟩
  refine ⟨_, rfl, ?_⟩
  have hQ6 := hQ5.step hb6
  have hD26 := hD25.below hb6
  refine hK.out _ _ hQ6.cells (fun hHeld => ?_)
  clear hK K
  refine norm_ (a' := ?_) ?_ ?_; rotate_left; (· show Act.put _ (some 17) _ = _; simp only [Act.put, List.setIfInBounds_toArray, List.set_cons_zero, List.set_cons_succ, i64_w, i32_w]; rfl)
  refine pure_ (i := 10) (N := some 5) (v := ?_) (a' := ?_) (bs 12 2047) rfl rfl (by kernel_rfl) (fun _ _ _ h => h) (Or.inl ⟨by rfl, ?_⟩) ?_ ?_; rotate_left; (· intro w'; go_simp; first | done | with_reducible rfl); rotate_left; (· simp only [Act.put, List.setIfInBounds_toArray, List.set_cons_zero, List.set_cons_succ, i64_w, i32_w]; rfl)
  refine pure_ (i := 11) (N := some 6) (v := ?_) (a' := ?_) (bs 12 4095) rfl rfl (by kernel_rfl) (fun _ _ _ h => h) (Or.inl ⟨by rfl, ?_⟩) ?_ ?_; rotate_left; (· intro w'; go_simp; first | done | with_reducible rfl); rotate_left; (· simp only [Act.put, List.setIfInBounds_toArray, List.set_cons_zero, List.set_cons_succ, i64_w, i32_w]; rfl)
  refine done_ (by kernel_rfl) ?_
  have HX := Aside0.mk (And.intro (hD5.below hb6) (And.intro hD6 (And.intro hD26 hQ6)))
  obtain ⟨x0, x1, x2, y0, y1, y2⟩ := HX.out.2.2.2.cells
  clear hD5 hD6 hb5 hb6 hb5' hQ5 hQ6 hD25 hD26 HQ HD2 HD hHeld
  go_wp2_with fail
  refine (timesD_n w5 HX.out.2.2.1.da HX.out.2.2.1.db (by omega)).mono ?_
  rintro e w7 ⟨A7, k7, c7, rfl, hD7, hb7⟩
  have HY := Aside0.mk (And.intro (HX.out.1.below hb7) (And.intro (HX.out.2.1.below hb7) hD7))
  have HQ7 := Aside0.mk (HX.out.2.2.2.step hb7)
  clear hD7 hb7 HX x0 x1 x2 y0 y1 y2
  obtain ⟨x0, x1, x2, y0, y1, y2⟩ := HQ7.out.cells
  by_cases hs : na = nb
  · subst hs
    clear y0
    have y0 : w7.cell? ⟨w.heap.size + 1, 0, none⟩ = some (.bool na) := HQ7.out.cells.2.2.2.1
    go_wp2_with fail
    have hQ7 := HQ7.out
    refine start_ (n := 8) (S := fun w' => w'.cell? ⟨w.heap.size, 0, none⟩ = some (.bool na) ∧ w'.cell? ⟨w.heap.size, 1, none⟩ = some (.slice A1 k1 c1) ∧ w'.cell? ⟨w.heap.size, 2, none⟩ = some (.slice A2 k2 c2) ∧ w'.cell? ⟨w.heap.size + 1, 0, none⟩ = some (.bool na) ∧ w'.cell? ⟨w.heap.size + 1, 1, none⟩ = some (.slice A3 k3 c3) ∧ w'.cell? ⟨w.heap.size + 1, 2, none⟩ = some (.slice A4 k4 c4)) (ds := [7]) (bs 8 0) (by kernel_rfl) rfl rfl (hQ7.step (below_drew' (Below.refl _ _))).cells (fun hHeld => ?_)
    refine pure_ (i := 0) (N := some 28) (v := ?_) (a' := ?_) (bs 8 1) rfl rfl (by kernel_rfl) (fun _ _ _ h => h) (Or.inl ⟨by rfl, ?_⟩) ?_ ?_; rotate_left; (· intro w'; go_simp; first | done | with_reducible rfl); rotate_left; (· simp only [Act.put, List.setIfInBounds_toArray, List.set_cons_zero, List.set_cons_succ, i64_w, i32_w]; rfl)
    refine pure_ (i := 2) (N := some 30) (v := ?_) (a' := ?_) (bs 8 5) rfl rfl (by kernel_rfl) (fun _ _ _ h => h) (Or.inl ⟨by rfl, ?_⟩) ?_ ?_; rotate_left; (· intro w'; go_simp; first | done | with_reducible rfl); rotate_left; (· simp only [Act.put, List.setIfInBounds_toArray, List.set_cons_zero, List.set_cons_succ, i64_w, i32_w]; rfl)
    refine pure_ (i := 3) (N := some 31) (v := ?_) (a' := ?_) (bs 8 13) rfl rfl (by kernel_rfl) (fun _ _ _ h => h) (Or.inl ⟨by rfl, ?_⟩) ?_ ?_; rotate_left; (· intro w'; go_simp; first | done | with_reducible rfl); rotate_left; (· simp only [Act.put, List.setIfInBounds_toArray, List.set_cons_zero, List.set_cons_succ, i64_w, i32_w]; rfl)
    refine pure_ (i := 5) (N := some 33) (v := ?_) (a' := ?_) (bs 8 45) rfl rfl (by kernel_rfl) (fun _ _ _ h => h) (Or.inl ⟨by rfl, ?_⟩) ?_ ?_; rotate_left; (· intro w'; go_simp; first | done | with_reducible rfl); rotate_left; (· simp only [Act.put, List.setIfInBounds_toArray, List.set_cons_zero, List.set_cons_succ, i64_w, i32_w]; rfl)
    refine take_ (i := 1) (N := some 29) (v := ?_) (a' := ?_) (bs 8 47) rfl rfl (by kernel_rfl) (fun _ _ _ h => h) (Or.inl ⟨by rfl, ?_⟩) hHeld ?_ ?_; rotate_left; (· rintro w' ⟨s0, s1, s2, s3, s4, s5⟩; go_simp; first | done | with_reducible rfl); rotate_left; (· simp only [Act.put, List.setIfInBounds_toArray, List.set_cons_zero, List.set_cons_succ, i64_w, i32_w]; rfl)
    refine one_ (i := 4) (N := some 32) (bs 8 63) rfl rfl (by kernel_rfl) (by decide) (fun K hK => ?_)
    refine goes_ Try.func81 (by kernel_rfl) rfl #[.slice A5 k5 c5, .slice A6 k6 c6] (by rfl) rfl rfl (by simp only [List.map_toArray, List.map_cons, List.map_nil]; rfl) ?_
    with_reducible refine (plusD_n w7.drew (HY.out.1.below (below_drew' (Below.refl _ _))) (HY.out.2.1.below (below_drew' (Below.refl _ _))) (by omega)).mono ?_
    rintro e w8 ⟨A8, k8, c8, rfl, hD8, hb8⟩
    refine ⟨_, rfl, ?_⟩
    have hb8' := below_drew' hb8
    have hQ8 := hQ7.step hb8'
    refine hK.out _ _ hQ8.cells (fun hHeld => ?_)
    clear hK K
    refine norm_ (a' := ?_) ?_ ?_; rotate_left; (· show Act.put _ (some 32) _ = _; simp only [Act.put, List.setIfInBounds_toArray, List.set_cons_zero, List.set_cons_succ, i64_w, i32_w]; rfl)
    refine pure_ (i := 6) (N := some 34) (v := ?_) (a' := ?_) (bs 8 127) rfl rfl (by kernel_rfl) (fun _ _ _ h => h) (Or.inl ⟨by rfl, ?_⟩) ?_ ?_; rotate_left; (· intro w'; go_simp; first | done | with_reducible rfl); rotate_left; (· simp only [Act.put, List.setIfInBounds_toArray, List.set_cons_zero, List.set_cons_succ, i64_w, i32_w]; rfl)
    refine last_ (i := 7) (N := none) (bs 8 255) rfl rfl (by kernel_rfl) (by decide) (fun K hK => ?_)
    obtain ⟨r0, r1, r2, r3, r4, r5⟩ := rat_cells hQ8.r
    refine skip_ (w1 := ?_) (by rfl) rfl ?_ ?_
    rotate_left
    · (go_simp; with_reducible rfl)
    refine hK.out _ _ ?_
    clear hK K
    refine done_ (by kernel_rfl) ?_
    have HX := Aside0.mk (And.intro hD8 (And.intro (HY.out.2.2.below hb8') hQ8))
    clear hD8 hb8 hb8' hQ8 hQ7
    go_wp2
    refine bodyPost_ret (results_single rfl (.cell (w.heap.size + 1 + 1) 60 #[.bool na, .slice A8 k8 c8, .slice A7 k7 c7] (0, 0) _ rfl (blk_three HX.out.2.2.r) Try.underlying60 rfl (by kernel_rfl) .nil)) rfl ?_
    exact ⟨_, A8, k8, c8, A7, k7, c7, _, rfl, (HX.out.1.fill HX.out.2.2.r _ _ _).mono (by omega), (HX.out.2.1.fill HX.out.2.2.r _ _ _).mono (by omega), sg_sum1, fill3_below HX.out.2.2.below (by omega) _ _ _⟩
  · have hsb : (na == nb) = false := by simpa using hs
    have HS := Aside0.mk hs
    clear hs
    go_wp2_with fail
    refine (compareD_n w7 HY.out.1 HY.out.2.1 (by omega)).mono ?_
    rintro e w6 ⟨rfl, hb6⟩
    have HY6 := Aside0.mk (And.intro (HY.out.1.below hb6) (And.intro (HY.out.2.1.below hb6) (HY.out.2.2.below hb6)))
    have HQ6 := Aside0.mk (HQ7.out.step hb6)
    clear hb6 HY HQ7 x0 x1 x2 y0 y1 y2
    obtain ⟨x0, x1, x2, y0, y1, y2⟩ := HQ6.out.cells
    by_cases hle : b * da ≤ a * db
    · have hc : ∃ c : Int, 0 ≤ c ∧ cmpI (a * db) (b * da) = c := ⟨_, by unfold cmpI; rw [if_neg (by omega)]; split <;> decide, rfl⟩
      obtain ⟨c, hc0, hc1⟩ := hc
      rw [hc1]
      have HL := Aside0.mk hle
      clear hc1 hle
      go_wp2_with fail
      have hQ7 := HQ6.out
      have HY := HY6
      refine start_ (n := 8) (S := fun w' => w'.cell? ⟨w.heap.size, 0, none⟩ = some (.bool na) ∧ w'.cell? ⟨w.heap.size, 1, none⟩ = some (.slice A1 k1 c1) ∧ w'.cell? ⟨w.heap.size, 2, none⟩ = some (.slice A2 k2 c2) ∧ w'.cell? ⟨w.heap.size + 1, 0, none⟩ = some (.bool nb) ∧ w'.cell? ⟨w.heap.size + 1, 1, none⟩ = some (.slice A3 k3 c3) ∧ w'.cell? ⟨w.heap.size + 1, 2, none⟩ = some (.slice A4 k4 c4)) (ds := [7]) (bs 8 0) (by kernel_rfl) rfl rfl (hQ7.step (below_drew' (Below.refl _ _))).cells (fun hHeld => ?_)
      refine pure_ (i := 0) (N := some 39) (v := ?_) (a' := ?_) (bs 8 1) rfl rfl (by kernel_rfl) (fun _ _ _ h => h) (Or.inl ⟨by rfl, ?_⟩) ?_ ?_; rotate_left; (· intro w'; go_simp; first | done | with_reducible rfl); rotate_left; (· simp only [Act.put, List.setIfInBounds_toArray, List.set_cons_zero, List.set_cons_succ, i64_w, i32_w]; rfl)
      refine pure_ (i := 2) (N := some 41) (v := ?_) (a' := ?_) (bs 8 5) rfl rfl (by kernel_rfl) (fun _ _ _ h => h) (Or.inl ⟨by rfl, ?_⟩) ?_ ?_; rotate_left; (· intro w'; go_simp; first | done | with_reducible rfl); rotate_left; (· simp only [Act.put, List.setIfInBounds_toArray, List.set_cons_zero, List.set_cons_succ, i64_w, i32_w]; rfl)
      refine pure_ (i := 3) (N := some 42) (v := ?_) (a' := ?_) (bs 8 13) rfl rfl (by kernel_rfl) (fun _ _ _ h => h) (Or.inl ⟨by rfl, ?_⟩) ?_ ?_; rotate_left; (· intro w'; go_simp; first | done | with_reducible rfl); rotate_left; (· simp only [Act.put, List.setIfInBounds_toArray, List.set_cons_zero, List.set_cons_succ, i64_w, i32_w]; rfl)
      refine pure_ (i := 5) (N := some 44) (v := ?_) (a' := ?_) (bs 8 45) rfl rfl (by kernel_rfl) (fun _ _ _ h => h) (Or.inl ⟨by rfl, ?_⟩) ?_ ?_; rotate_left; (· intro w'; go_simp; first | done | with_reducible rfl); rotate_left; (· simp only [Act.put, List.setIfInBounds_toArray, List.set_cons_zero, List.set_cons_succ, i64_w, i32_w]; rfl)
      refine take_ (i := 1) (N := some 40) (v := ?_) (a' := ?_) (bs 8 47) rfl rfl (by kernel_rfl) (fun _ _ _ h => h) (Or.inl ⟨by rfl, ?_⟩) hHeld ?_ ?_; rotate_left; (· rintro w' ⟨s0, s1, s2, s3, s4, s5⟩; go_simp; first | done | with_reducible rfl); rotate_left; (· simp only [Act.put, List.setIfInBounds_toArray, List.set_cons_zero, List.set_cons_succ, i64_w, i32_w]; rfl)
      refine one_ (i := 4) (N := some 43) (bs 8 63) rfl rfl (by kernel_rfl) (by decide) (fun K hK => ?_)
      refine goes_ Try.func87 (by kernel_rfl) rfl #[.slice A5 k5 c5, .slice A6 k6 c6] (by rfl) rfl rfl (by simp only [List.map_toArray, List.map_cons, List.map_nil]; rfl) ?_
      with_reducible refine (minusD_n w6.drew (HY6.out.1.below (below_drew' (Below.refl _ _))) (HY6.out.2.1.below (below_drew' (Below.refl _ _))) HL.out (by omega)).mono ?_
      rintro e w8 ⟨A8, k8, c8, rfl, hD8, hb8⟩
      refine ⟨_, rfl, ?_⟩
      have hb8' := below_drew' hb8
      have hQ8 := hQ7.step hb8'
      refine hK.out _ _ hQ8.cells (fun hHeld => ?_)
      clear hK K
      refine norm_ (a' := ?_) ?_ ?_; rotate_left; (· show Act.put _ (some 43) _ = _; simp only [Act.put, List.setIfInBounds_toArray, List.set_cons_zero, List.set_cons_succ, i64_w, i32_w]; rfl)
      refine pure_ (i := 6) (N := some 45) (v := ?_) (a' := ?_) (bs 8 127) rfl rfl (by kernel_rfl) (fun _ _ _ h => h) (Or.inl ⟨by rfl, ?_⟩) ?_ ?_; rotate_left; (· intro w'; go_simp; first | done | with_reducible rfl); rotate_left; (· simp only [Act.put, List.setIfInBounds_toArray, List.set_cons_zero, List.set_cons_succ, i64_w, i32_w]; rfl)
      refine last_ (i := 7) (N := none) (bs 8 255) rfl rfl (by kernel_rfl) (by decide) (fun K hK => ?_)
      obtain ⟨r0, r1, r2, r3, r4, r5⟩ := rat_cells hQ8.r
      refine skip_ (w1 := ?_) (by rfl) rfl ?_ ?_
      rotate_left
      · (go_simp; with_reducible rfl)
      refine hK.out _ _ ?_
      clear hK K
      refine done_ (by kernel_rfl) ?_
      have HX := Aside0.mk (And.intro hD8 (And.intro (HY.out.2.2.below hb8') hQ8))
      clear hD8 hb8 hb8' hQ8 hQ7
      go_wp2
      refine bodyPost_ret (results_single rfl (.cell (w.heap.size + 1 + 1) 60 #[.bool na, .slice A8 k8 c8, .slice A7 k7 c7] (0, 0) _ rfl (blk_three HX.out.2.2.r) Try.underlying60 rfl (by kernel_rfl) .nil)) rfl ?_
      exact ⟨_, A8, k8, c8, A7, k7, c7, _, rfl, (HX.out.1.fill HX.out.2.2.r _ _ _).mono (by omega), (HX.out.2.1.fill HX.out.2.2.r _ _ _).mono (by omega), sg_sum2 HS.out, fill3_below HX.out.2.2.below (by omega) _ _ _⟩
    · have hc1 : cmpI (a * db) (b * da) = -1 := by unfold cmpI; rw [if_pos (by omega)]
      rw [hc1]
      have HL := Aside0.mk (show a * db ≤ b * da by omega)
      clear hc1 hle
      go_wp2_with fail
      have hQ7 := HQ6.out
      have HY := HY6
      refine start_ (n := 8) (S := fun w' => w'.cell? ⟨w.heap.size, 0, none⟩ = some (.bool na) ∧ w'.cell? ⟨w.heap.size, 1, none⟩ = some (.slice A1 k1 c1) ∧ w'.cell? ⟨w.heap.size, 2, none⟩ = some (.slice A2 k2 c2) ∧ w'.cell? ⟨w.heap.size + 1, 0, none⟩ = some (.bool nb) ∧ w'.cell? ⟨w.heap.size + 1, 1, none⟩ = some (.slice A3 k3 c3) ∧ w'.cell? ⟨w.heap.size + 1, 2, none⟩ = some (.slice A4 k4 c4)) (ds := [7]) (bs 8 0) (by kernel_rfl) rfl rfl (hQ7.step (below_drew' (Below.refl _ _))).cells (fun hHeld => ?_)
      refine pure_ (i := 0) (N := some 46) (v := ?_) (a' := ?_) (bs 8 1) rfl rfl (by kernel_rfl) (fun _ _ _ h => h) (Or.inl ⟨by rfl, ?_⟩) ?_ ?_; rotate_left; (· intro w'; go_simp; first | done | with_reducible rfl); rotate_left; (· simp only [Act.put, List.setIfInBounds_toArray, List.set_cons_zero, List.set_cons_succ, i64_w, i32_w]; rfl)
      refine pure_ (i := 2) (N := some 48) (v := ?_) (a' := ?_) (bs 8 5) rfl rfl (by kernel_rfl) (fun _ _ _ h => h) (Or.inl ⟨by rfl, ?_⟩) ?_ ?_; rotate_left; (· intro w'; go_simp; first | done | with_reducible rfl); rotate_left; (· simp only [Act.put, List.setIfInBounds_toArray, List.set_cons_zero, List.set_cons_succ, i64_w, i32_w]; rfl)
      refine pure_ (i := 3) (N := some 49) (v := ?_) (a' := ?_) (bs 8 13) rfl rfl (by kernel_rfl) (fun _ _ _ h => h) (Or.inl ⟨by rfl, ?_⟩) ?_ ?_; rotate_left; (· intro w'; go_simp; first | done | with_reducible rfl); rotate_left; (· simp only [Act.put, List.setIfInBounds_toArray, List.set_cons_zero, List.set_cons_succ, i64_w, i32_w]; rfl)
      refine pure_ (i := 5) (N := some 51) (v := ?_) (a' := ?_) (bs 8 45) rfl rfl (by kernel_rfl) (fun _ _ _ h => h) (Or.inl ⟨by rfl, ?_⟩) ?_ ?_; rotate_left; (· intro w'; go_simp; first | done | with_reducible rfl); rotate_left; (· simp only [Act.put, List.setIfInBounds_toArray, List.set_cons_zero, List.set_cons_succ, i64_w, i32_w]; rfl)
      refine take_ (i := 1) (N := some 47) (v := ?_) (a' := ?_) (bs 8 47) rfl rfl (by kernel_rfl) (fun _ _ _ h => h) (Or.inl ⟨by rfl, ?_⟩) hHeld ?_ ?_; rotate_left; (· rintro w' ⟨s0, s1, s2, s3, s4, s5⟩; go_simp; first | done | with_reducible rfl); rotate_left; (· simp only [Act.put, List.setIfInBounds_toArray, List.set_cons_zero, List.set_cons_succ, i64_w, i32_w]; rfl)
      refine one_ (i := 4) (N := some 50) (bs 8 63) rfl rfl (by kernel_rfl) (by decide) (fun K hK => ?_)
      refine goes_ Try.func87 (by kernel_rfl) rfl #[.slice A6 k6 c6, .slice A5 k5 c5] (by rfl) rfl rfl (by simp only [List.map_toArray, List.map_cons, List.map_nil]; rfl) ?_
      with_reducible refine (minusD_n w6.drew (HY6.out.2.1.below (below_drew' (Below.refl _ _))) (HY6.out.1.below (below_drew' (Below.refl _ _))) HL.out (by omega)).mono ?_
      rintro e w8 ⟨A8, k8, c8, rfl, hD8, hb8⟩
      refine ⟨_, rfl, ?_⟩
      have hb8' := below_drew' hb8
      have hQ8 := hQ7.step hb8'
      refine hK.out _ _ hQ8.cells (fun hHeld => ?_)
      clear hK K
      refine norm_ (a' := ?_) ?_ ?_; rotate_left; (· show Act.put _ (some 50) _ = _; simp only [Act.put, List.setIfInBounds_toArray, List.set_cons_zero, List.set_cons_succ, i64_w, i32_w]; rfl)
      refine pure_ (i := 6) (N := some 52) (v := ?_) (a' := ?_) (bs 8 127) rfl rfl (by kernel_rfl) (fun _ _ _ h => h) (Or.inl ⟨by rfl, ?_⟩) ?_ ?_; rotate_left; (· intro w'; go_simp; first | done | with_reducible rfl); rotate_left; (· simp only [Act.put, List.setIfInBounds_toArray, List.set_cons_zero, List.set_cons_succ, i64_w, i32_w]; rfl)
      refine last_ (i := 7) (N := none) (bs 8 255) rfl rfl (by kernel_rfl) (by decide) (fun K hK => ?_)
      obtain ⟨r0, r1, r2, r3, r4, r5⟩ := rat_cells hQ8.r
      refine skip_ (w1 := ?_) (by rfl) rfl ?_ ?_
      rotate_left
      · (go_simp; with_reducible rfl)
      refine hK.out _ _ ?_
      clear hK K
      refine done_ (by kernel_rfl) ?_
      have HX := Aside0.mk (And.intro hD8 (And.intro (HY.out.2.2.below hb8') hQ8))
      clear hD8 hb8 hb8' hQ8 hQ7
      go_wp2
      refine bodyPost_ret (results_single rfl (.cell (w.heap.size + 1 + 1) 60 #[.bool nb, .slice A8 k8 c8, .slice A7 k7 c7] (0, 0) _ rfl (blk_three HX.out.2.2.r) Try.underlying60 rfl (by kernel_rfl) .nil)) rfl ?_
      exact ⟨_, A8, k8, c8, A7, k7, c7, _, rfl, (HX.out.1.fill HX.out.2.2.r _ _ _).mono (by omega), (HX.out.2.1.fill HX.out.2.2.r _ _ _).mono (by omega), sg_sum3 HS.out, fill3_below HX.out.2.2.below (by omega) _ _ _⟩
set_option maxHeartbeats 8000000 in
set_option maxRecDepth 100000 in
theorem lessR_n (na nb : Bool) (A1 A2 A3 A4 : Option Addr) (k1 c1 k2 c2 k3 c3 k4 c4 : Nat) (a da b db : Int) (n m : Nat) (w : World) (h : D4 w (.slice A1 k1 c1) (.slice A2 k2 c2) (.slice A3 k3 c3) (.slice A4 k4 c4) a da b db n m) (hl : n + m ≤ 300) :
    Calls Try.prog 66 #[.agg #[.bool na, .slice A1 k1 c1, .slice A2 k2 c2], .agg #[.bool nb, .slice A3 k3 c3, .slice A4 k4 c4]] w (ValP w (.bool (decide (sg na (a * db) < sg nb (b * da))))) := by
  have hu := Try.underlying60
  have hb1 : Below w.heap.size w ((w.alloc (ratObj na (.slice A1 k1 c1) (.slice A2 k2 c2))).alloc (ratObj nb (.slice A3 k3 c3) (.slice A4 k4 c4))) := below_alloc (below_alloc (Below.refl _ w) _) _
  have HS := Aside0.mk (fun w' h => sumR_n na (!nb) A1 A2 A3 A4 k1 c1 k2 c2 k3 c3 k4 c4 a da b db n m w' h hl)
  have HH := Aside0.mk (And.intro hb1 (h.below hb1))
  clear h hb1
  go_enter Try.func66, Try.ntmps66
  go_wp2_with fail
  refine (HS.out _ HH.out.2).mono ?_
  rintro e w2 ⟨neg, A, k, c, A', k', c', x, rfl, hD, hD', hv, hb2⟩
  have hx := hD.nonneg
  have h0 := hD.len0
  have HB := Aside0.mk (below_alloc (HH.out.1.trans (hb2.mono HH.out.1.size)) (ratObj neg (.slice A k c) (.slice A' k' c')))
  have hres : (neg && decide (0 < k)) = decide (sg na (a * db) < sg nb (b * da)) := by
    rw [Bool.eq_iff_iff]
    have e1 : sg (!nb) (b * da) = -sg nb (b * da) := by cases nb <;> simp [sg]
    rw [e1] at hv
    simp only [Bool.and_eq_true, decide_eq_true_eq]
    have e2 : 0 < k ↔ x ≠ 0 := by omega
    rw [e2]
    cases neg
    · simp [sg] at hv ⊢
      omega
    · simp [sg] at hv ⊢
      omega
  have HR := Aside0.mk hres
  clear hD hD' hv hb2 hx h0 hres
  cases neg with
  | false =>
    go_wp2_with fail
    go_ret
    exact ⟨ret_b HR.out, HB.out⟩
  | true =>
    go_wp2_with fail
    go_ret
    exact ⟨ret_b (by rw [← HR.out]; simp), HB.out⟩
end Go.Proofs.Ytdginjpppgfdaaa.Fb

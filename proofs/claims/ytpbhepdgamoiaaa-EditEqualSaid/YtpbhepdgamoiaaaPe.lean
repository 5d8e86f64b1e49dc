/-
  Lists of edits as plain values: the first error, the normal list, the length; and that the code tells them.
-/
import Derived.Test.YtpbhepdgamoiaaaEx
namespace Go.Proofs.Ytpbhepdgamoiaaa.Pe
open Go.RowKit Go Go.Proofs.YtpbhepdgamoiaaaW.PrintWords Go.Proofs.YtpbhepdgamoiaaaW.PrintLast Go.Proofs.YtpbhepdgamoiaaaW.PrintMore Go.Proofs.Ytpbhepdgamoiaaa.Mn Go.Proofs.Ytpbhepdgamoiaaa.Rf Go.Proofs.Ytpbhepdgamoiaaa.Er Go.Proofs.Ytpbhepdgamoiaaa.Ek Go.Proofs.Ytpbhepdgamoiaaa.E
set_option linter.unusedVariables false
set_option linter.unusedSimpArgs false

abbrev Ed := S77
/-- An edit by itself is as said. -/
structure Vd (x : Ed) : Prop where
  d0 : 1 ≤ x.f0
  d1 : x.f0 ≤ 1099511627776
  m0 : -1 ≤ x.f1
  m1 : x.f1 ≤ 1099511627776
  n0 : 0 ≤ x.f2
  n1 : x.f2 ≤ 1000
  e0 : 1 ≤ x.f3
  e1 : x.f3 ≤ 1000
  em : x.f1 < 0 → x.f2 = 1 ∧ x.f3 = 1
instance (x : Ed) : Decidable (Vd x) :=
  decidable_of_iff (1 ≤ x.f0 ∧ x.f0 ≤ 1099511627776 ∧ -1 ≤ x.f1 ∧ x.f1 ≤ 1099511627776 ∧ 0 ≤ x.f2 ∧ x.f2 ≤ 1000 ∧ 1 ≤ x.f3 ∧ x.f3 ≤ 1000 ∧ (x.f1 < 0 → x.f2 = 1 ∧ x.f3 = 1))
    ⟨fun ⟨a, b, c, d, e, f, g, h, i⟩ => ⟨a, b, c, d, e, f, g, h, i⟩, fun h => ⟨h.d0, h.d1, h.m0, h.m1, h.n0, h.n1, h.e0, h.e1, h.em⟩⟩
/-- The clocks are scales. -/
structure Ck (ms ts : Int) : Prop where
  m0 : 1 ≤ ms
  m1 : ms ≤ 1000000
  t0 : 1 ≤ ts
  t1 : ts ≤ 1000000
instance (ms ts : Int) : Decidable (Ck ms ts) :=
  decidable_of_iff (1 ≤ ms ∧ ms ≤ 1000000 ∧ 1 ≤ ts ∧ ts ≤ 1000000) ⟨fun ⟨a, b, c, d⟩ => ⟨a, b, c, d⟩, fun h => ⟨h.m0, h.m1, h.t0, h.t1⟩⟩
theorem valid_f (x : Ed) : edit_valid.f x.f0 x.f1 x.f2 x.f3 = some true ∧ Vd x ∨ edit_valid.f x.f0 x.f1 x.f2 x.f3 = some false ∧ ¬ Vd x := by
  unfold edit_valid.f
  by_cases h1 : x.f0 < 1
  · rw [if_pos h1]; exact .inr ⟨rfl, fun h => by have := h.d0; omega⟩
  rw [if_neg h1]
  by_cases h2 : x.f0 > 1099511627776
  · rw [if_pos h2]; exact .inr ⟨rfl, fun h => by have := h.d1; omega⟩
  rw [if_neg h2]
  by_cases h3 : x.f1 < -1
  · rw [if_pos h3]; exact .inr ⟨rfl, fun h => by have := h.m0; omega⟩
  rw [if_neg h3]
  by_cases h4 : x.f1 > 1099511627776
  · rw [if_pos h4]; exact .inr ⟨rfl, fun h => by have := h.m1; omega⟩
  rw [if_neg h4]
  by_cases h5 : x.f2 < 0
  · rw [if_pos h5]; exact .inr ⟨rfl, fun h => by have := h.n0; omega⟩
  rw [if_neg h5]
  by_cases h6 : x.f2 > 1000
  · rw [if_pos h6]; exact .inr ⟨rfl, fun h => by have := h.n1; omega⟩
  rw [if_neg h6]
  by_cases h7 : x.f3 < 1
  · rw [if_pos h7]; exact .inr ⟨rfl, fun h => by have := h.e0; omega⟩
  rw [if_neg h7]
  by_cases h8 : x.f3 > 1000
  · rw [if_pos h8]; exact .inr ⟨rfl, fun h => by have := h.e1; omega⟩
  rw [if_neg h8]
  by_cases h9 : x.f1 ≥ 0
  · rw [if_pos h9]; exact .inl ⟨rfl, ⟨by omega, by omega, by omega, by omega, by omega, by omega, by omega, by omega, fun h => by omega⟩⟩
  rw [if_neg h9]
  by_cases h10 : x.f2 = 1
  · rw [if_pos h10]
    by_cases h11 : x.f3 = 1
    · rw [h11]; exact .inl ⟨rfl, ⟨by omega, by omega, by omega, by omega, by omega, by omega, by omega, by omega, fun h => by omega⟩⟩
    · exact .inr ⟨by simp [h11], fun h => by have := h.em (by omega); omega⟩
  · rw [if_neg h10]; exact .inr ⟨rfl, fun h => by have := h.em (by omega); omega⟩
/-- The first error of a list. -/
def chk (l : List Ed) (ms ts : Int) : Int := if ¬ Ck ms ts then 1 else if 20 < l.length then 2 else if (∀ x ∈ l, Vd x) ∧ sumD l ≤ 1099511627776 then 0 else 33
theorem chk_ok {l : List Ed} {ms ts : Int} : chk l ms ts = 0 ↔ Ck ms ts ∧ l.length ≤ 20 ∧ (∀ x ∈ l, Vd x) ∧ sumD l ≤ 1099511627776 := by
  unfold chk
  constructor
  · intro h
    by_cases h1 : Ck ms ts
    · rw [if_neg (not_not_intro h1)] at h
      by_cases h2 : 20 < l.length
      · rw [if_pos h2] at h; cases h
      · rw [if_neg h2] at h
        by_cases h3 : (∀ x ∈ l, Vd x) ∧ sumD l ≤ 1099511627776
        · exact ⟨h1, by omega, h3.1, h3.2⟩
        · rw [if_neg h3] at h; cases h
    · rw [if_pos h1] at h; cases h
  · rintro ⟨h1, h2, h3, h4⟩
    rw [if_neg (not_not_intro h1), if_neg (by omega), if_pos ⟨h3, h4⟩]
theorem rd_at (pre : List Ed) (x : Ed) (rest : List Ed) : rd_T77 (pre ++ x :: rest) (pre.length : Int) = x := by
  unfold rd_T77
  simp [List.getD_eq_getElem?_getD]
theorem sumD_nonneg {l : List Ed} (h : ∀ x ∈ l, Vd x) : 0 ≤ sumD l := by
  induction l with
  | nil => simp [sumD]
  | cons x t ih =>
    have h1 := (h x (by simp)).d0
    have h2 := ih (fun y hy => h y (by simp [hy]))
    simp only [sumD]
    omega
theorem sumD_le {l : List Ed} (h : ∀ x ∈ l, Vd x) : sumD l ≤ 1099511627776 * l.length := by
  induction l with
  | nil => simp [sumD]
  | cons x t ih =>
    have h1 := (h x (by simp)).d1
    have h2 := ih (fun y hy => h y (by simp [hy]))
    simp only [sumD, List.length_cons]
    omega
theorem check_l (l : List Ed) (hl : l.length ≤ 20) (rest : List Ed) : ∀ pre, l = pre ++ rest → (∀ x ∈ pre, Vd x) → Ev (fun k => edit_Check.l0 k (sumD pre) l (l.length : Int) (pre.length : Int)) (if (∀ x ∈ rest, Vd x) ∧ sumD l ≤ 1099511627776 then 0 else 33) := by
  induction rest with
  | nil =>
    intro pre he hp
    subst he
    refine Ev.step (f := fun _ => some (if (∀ x ∈ ([] : List Ed), Vd x) ∧ sumD (pre ++ []) ≤ 1099511627776 then 0 else 33)) (fun k => ?_) (Ev.now _)
    simp only [edit_Check.l0, List.append_nil]
    rw [if_neg (by omega)]
    by_cases h : sumD pre > 1099511627776
    · rw [if_pos h, if_neg (by intro hh; omega)]
    · rw [if_neg h, if_pos ⟨by simp, by omega⟩]
  | cons x t ih =>
    intro pre he hp
    have hlen : l.length = pre.length + (t.length + 1) := by rw [he]; simp
    have hx : rd_T77 l (pre.length : Int) = x := by rw [he]; exact rd_at pre x t
    rcases valid_f x with ⟨hv, hV⟩ | ⟨hv, hV⟩
    · have hs : sumD (pre ++ [x]) = sumD pre + x.f0 := by rw [sumD_app]; simp [sumD]
      have hb := sumD_le hp
      have h0 := sumD_nonneg hp
      have hr := ih (pre ++ [x]) (by rw [he]; simp) (by intro y hy; simp only [List.mem_append, List.mem_singleton] at hy; rcases hy with hy | rfl; exact hp y hy; exact hV)
      refine Ev.step (fun k => ?_) (Ev.congr (f := fun k => edit_Check.l0 k (sumD (pre ++ [x])) l (l.length : Int) ((pre ++ [x]).length : Int)) (fun k => rfl) ?_)
      · simp only [edit_Check.l0]
        rw [if_pos (by omega), if_pos (by omega), if_pos (by omega), hx, hv]
        simp only [Option.bind_some, if_true]
        rw [w64 (by have := hV.d0; omega) (by have := hV.d1; omega), w64 (by omega) (by omega), hs]
        simp
      · have e : ((∀ y ∈ x :: t, Vd y) ∧ sumD l ≤ 1099511627776) = ((∀ y ∈ t, Vd y) ∧ sumD l ≤ 1099511627776) := by
          apply propext
          constructor
          · rintro ⟨h1, h2⟩; exact ⟨fun y hy => h1 y (by simp [hy]), h2⟩
          · rintro ⟨h1, h2⟩; exact ⟨fun y hy => by simp only [List.mem_cons] at hy; rcases hy with rfl | hy; exact hV; exact h1 y hy, h2⟩
        simp only [e]
        exact hr
    · refine Ev.step (f := fun _ => some 33) (fun k => ?_) ?_
      · simp only [edit_Check.l0]
        rw [if_pos (by omega), if_pos (by omega), if_pos (by omega), hx, hv]
        simp
      · rw [if_neg (fun h => hV (h.1 x (by simp)))]
        exact Ev.now _
theorem scale_f (n : Int) : edit_isScale.f n = some (decide (1 ≤ n ∧ n ≤ 1000000)) := by
  unfold edit_isScale.f
  by_cases h : n ≥ 1
  · rw [if_pos h]; simp; omega
  · rw [if_neg h]; simp; omega
theorem check_f (l : List Ed) (ms ts : Int) : Ev (fun k => edit_Check.f k l ms ts) (chk l ms ts) := by
  have h0 : ∀ b, Ev (fun k => edit_Check.j0 k l b) (if b = true then 1 else if 20 < l.length then 2 else if (∀ x ∈ l, Vd x) ∧ sumD l ≤ 1099511627776 then 0 else 33) := by
    intro b
    by_cases hb : b = true
    · rw [if_pos hb]
      refine Ev.step (f := fun _ => some 1) (fun k => ?_) (Ev.now _)
      simp only [edit_Check.j0]
      rw [if_pos hb]
    · rw [if_neg hb]
      by_cases hl : 20 < l.length
      · rw [if_pos hl]
        refine Ev.step (f := fun _ => some 2) (fun k => ?_) (Ev.now _)
        simp only [edit_Check.j0]
        rw [if_neg hb, if_pos (by omega)]
      · rw [if_neg hl]
        refine Ev.step (fun k => ?_) (check_l l (by omega) l [] rfl (by simp))
        simp only [edit_Check.j0]
        rw [if_neg hb, if_neg (by omega)]
        rfl
  unfold chk
  by_cases h1 : 1 ≤ ms ∧ ms ≤ 1000000
  · by_cases h2 : 1 ≤ ts ∧ ts ≤ 1000000
    · rw [if_neg (not_not_intro ⟨h1.1, h1.2, h2.1, h2.2⟩)]
      refine Ev.congr (fun k => ?_) (h0 false)
      unfold edit_Check.f
      rw [scale_f, scale_f, decide_eq_true h1, decide_eq_true h2]
      rfl
    · rw [if_pos (fun h => h2 ⟨h.t0, h.t1⟩)]
      refine Ev.congr (fun k => ?_) (h0 true)
      unfold edit_Check.f
      rw [scale_f, scale_f, decide_eq_true h1, decide_eq_false h2]
      rfl
  · rw [if_pos (fun h => h1 ⟨h.m0, h.m1⟩)]
    refine Ev.congr (fun k => ?_) (h0 true)
    unfold edit_Check.f
    rw [scale_f, decide_eq_false h1]
    rfl
end Go.Proofs.Ytpbhepdgamoiaaa.Pe

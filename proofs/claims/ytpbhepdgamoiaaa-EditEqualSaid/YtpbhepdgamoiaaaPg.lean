/-
  Whether lists are equal, alike; the first example of the chapter.
-/
import Derived.Test.YtpbhepdgamoiaaaPf
namespace Go.Proofs.Ytpbhepdgamoiaaa.Pg
open Go.RowKit Go Go.Proofs.YtpbhepdgamoiaaaW.PrintWords Go.Proofs.YtpbhepdgamoiaaaW.PrintLast Go.Proofs.YtpbhepdgamoiaaaW.PrintMore Go.Proofs.Ytpbhepdgamoiaaa.Mn Go.Proofs.Ytpbhepdgamoiaaa.Rf Go.Proofs.Ytpbhepdgamoiaaa.Er Go.Proofs.Ytpbhepdgamoiaaa.Ek Go.Proofs.Ytpbhepdgamoiaaa.E Go.Proofs.Ytpbhepdgamoiaaa.Pe Go.Proofs.Ytpbhepdgamoiaaa.Pf
set_option linter.unusedVariables false
set_option linter.unusedSimpArgs false

instance : DecidableEq Ed := fun x y =>
  decidable_of_iff (x.f0 = y.f0 ∧ x.f1 = y.f1 ∧ x.f2 = y.f2 ∧ x.f3 = y.f3) ⟨fun h => by cases x; cases y; simp_all, fun h => by subst h; simp⟩
theorem ed_ne (x y : Ed) : (!x.f0 == y.f0 || (!x.f1 == y.f1 || (!x.f2 == y.f2 || !x.f3 == y.f3))) = !decide (x = y) := by
  cases x; cases y
  rw [Bool.eq_iff_iff]
  simp
theorem equal_l (a b : List Ed) (hl : a.length ≤ 1000000) (ra : List Ed) : ∀ (pre rb : List Ed), a = pre ++ ra → b = pre ++ rb → ra.length = rb.length → Ev (fun k => api_Edit.l0 k a b (a.length : Int) (pre.length : Int)) (decide (ra = rb)) := by
  induction ra with
  | nil =>
    intro pre rb ha hb hr
    have : rb = [] := by cases rb with | nil => rfl | cons _ _ => simp at hr
    subst this
    refine Ev.step (f := fun _ => some (decide (([] : List Ed) = []))) (fun k => ?_) (Ev.now _)
    simp only [api_Edit.l0]
    rw [if_neg (by rw [ha]; simp)]
    simp
  | cons x t ih =>
    intro pre rb ha hb hr
    cases rb with
    | nil => simp at hr
    | cons y u =>
      have hx : rd_T77 a (pre.length : Int) = x := by rw [ha]; exact rd_at pre x t
      have hy : rd_T77 b (pre.length : Int) = y := by rw [hb]; exact rd_at pre y u
      have hla : a.length = pre.length + (t.length + 1) := by rw [ha]; simp
      have hlb : b.length = pre.length + (u.length + 1) := by rw [hb]; simp
      simp only [List.length_cons, Nat.add_right_cancel_iff] at hr
      by_cases hxy : x = y
      · subst hxy
        have hi := ih (pre ++ [x]) u (by rw [ha]; simp) (by rw [hb]; simp) hr
        have e : decide (x :: t = x :: u) = decide (t = u) := by simp
        rw [e]
        refine Ev.step (fun k => ?_) hi
        simp only [api_Edit.l0]
        rw [if_pos (by omega), if_pos (by omega), if_pos (by omega), if_pos (by omega), hx, hy, ed_ne, if_neg (by simp), w64 (by omega) (by omega)]
        simp
      · rw [decide_eq_false (by intro h; injection h with h _; exact hxy h)]
        refine Ev.step (f := fun _ => some false) (fun k => ?_) (Ev.now _)
        simp only [api_Edit.l0]
        rw [if_pos (by omega), if_pos (by omega), if_pos (by omega), if_pos (by omega), hx, hy, ed_ne, if_pos (by simpa using hxy)]
theorem equal_f (a b : List Ed) (hl : a.length ≤ 1000000) : Ev (fun k => api_Edit.f k a b) (decide (a = b)) := by
  by_cases h : a.length = b.length
  · refine Ev.congr (fun k => ?_) (equal_l a b hl a [] b rfl rfl h)
    unfold api_Edit.f
    first | (rw [if_pos (by omega)]; rfl) | (rw [if_neg (by omega)]; rfl)
  · rw [decide_eq_false (fun e => h (by rw [e]))]
    refine Ev.congr (fun k => ?_) (Ev.now _)
    unfold api_Edit.f
    first | (rw [if_neg (by omega)]; done) | (rw [if_pos (by omega)]; done) | (rw [if_neg (by omega)]; rfl)
/-- What Alike tells. -/
def aliV (ms ts : Int) (a b : List Ed) : Bool × Int := if chk a ms ts = 0 then (if chk b ms ts = 0 then (decide (nrm ms ts a = nrm ms ts b), 0) else (false, chk b ms ts)) else (false, chk a ms ts)
theorem Alike_f (a b : List Ed) (ms ts : Int) : Ev (fun k => edit_Alike.f k a b ms ts) (aliV ms ts a b) := by
  unfold aliV
  have ha := Normal_f a ms ts
  have hb := Normal_f b ms ts
  unfold norV at ha hb
  by_cases h0 : chk a ms ts = 0
  · rw [if_pos h0] at ha ⊢
    refine Ev.congr (fun k => rfl) (Ev.bind ha ?_)
    refine Ev.congr (fun k => if_pos rfl) ?_
    by_cases h1 : chk b ms ts = 0
    · rw [if_pos h1] at hb ⊢
      refine Ev.bind hb ?_
      refine Ev.congr (fun k => if_pos rfl) ?_
      refine Ev.bind (equal_f _ _ ?_) (Ev.now _)
      have h2 := nrm_len ms ts a
      have h3 := (chk_ok.1 h0).2.1
      show (nrm ms ts a).length ≤ 1000000
      omega
    · rw [if_neg h1] at hb ⊢
      refine Ev.bind hb ?_
      exact Ev.congr (fun k => if_neg h1) (Ev.now _)
  · rw [if_neg h0] at ha ⊢
    refine Ev.congr (fun k => rfl) (Ev.bind ha ?_)
    exact Ev.congr (fun k => if_neg h0) (Ev.now _)
def exL : List Ed := [⟨10, 0, 1, 1⟩, ⟨5, 10, 1, 1⟩]
theorem nrm_ex : nrm 10 10 exL = [⟨15, 0, 1, 1⟩] := by decide +kernel
theorem chk_ex : chk exL 10 10 = 0 := by decide +kernel
theorem awake_f : Ev (fun k => dioramalaw10_awake.f k) true := by
  have h := Normal_f exL 10 10
  unfold norV at h
  rw [if_pos chk_ex, nrm_ex] at h
  refine Ev.congr (fun k => rfl) (Ev.bind h ?_)
  refine Ev.congr (f := fun _ => some true) (fun k => ?_) (Ev.now _)
  rfl
theorem Length_f (l : List Ed) (h : l.length ≤ 100) (hw : ∀ x ∈ l, in64 x.f0 = true) : edit_Length.f l = some (lenB (sumD l)) := by
  unfold edit_Length.f lenOk
  rw [if_pos (by simp only [Bool.and_eq_true, decide_eq_true_eq, List.all_eq_true]; exact ⟨h, hw⟩)]
theorem many_f (l : List Ed) : dioramalaw10_many.f l = some (decide (60 < l.length)) := by
  unfold dioramalaw10_many.f
  congr 1
  by_cases h : 60 < l.length
  · rw [decide_eq_true h, decide_eq_true (by omega)]
  · rw [decide_eq_false h, decide_eq_false (by omega)]
end Go.Proofs.Ytpbhepdgamoiaaa.Pg

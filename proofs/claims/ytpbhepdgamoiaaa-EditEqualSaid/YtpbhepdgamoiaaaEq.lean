/-
  EditEqual: to show the same is an equivalence, and lists that do are as long.
-/
import Derived.Test.YtpbhepdgamoiaaaPg
import Derived.Test.YtpbhepdgamoiaaaOe
namespace Go.Proofs.Ytpbhepdgamoiaaa.Eq
open Go.RowKit Go Go.Proofs.YtpbhepdgamoiaaaW.PrintWords Go.Proofs.YtpbhepdgamoiaaaW.PrintLast Go.Proofs.YtpbhepdgamoiaaaW.PrintMore Go.Proofs.Ytpbhepdgamoiaaa.Mn Go.Proofs.Ytpbhepdgamoiaaa.Rf Go.Proofs.Ytpbhepdgamoiaaa.Er Go.Proofs.Ytpbhepdgamoiaaa.Ek Go.Proofs.Ytpbhepdgamoiaaa.E Go.Proofs.Ytpbhepdgamoiaaa.Pe Go.Proofs.Ytpbhepdgamoiaaa.Pf Go.Proofs.Ytpbhepdgamoiaaa.Pg Go.Proofs.Ytpbhepdgamoiaaa.Oe
set_option linter.unusedVariables false
set_option linter.unusedSimpArgs false

theorem pure_f (a b c : List Ed) (wa : ∀ x ∈ a, in64 x.f0 = true) (wb : ∀ x ∈ b, in64 x.f0 = true) : Ev (fun k => dioramalaw10_EditEqual.f k a b c) true := by
  have hj1 : ∀ (p q s t : Bool) (z : Bool), (z = false → p = q ∧ (p = true → s = true → t = true) ∧ (p = true → edit_Length.f a = edit_Length.f b ∧ ∃ n, edit_Length.f b = some n)) → Ev (fun k => dioramalaw10_EditEqual.j1 k a b p q s t z) true := by
    intro p q s t z h
    refine Ev.step (fun k => by rw [dioramalaw10_EditEqual.j1]) ?_
    cases z with
    | true => exact Ev.congr (fun k => if_pos rfl) (Ev.bind awake_f (Ev.now _))
    | false =>
      obtain ⟨h1, h2, h3⟩ := h rfl
      subst h1
      refine Ev.congr (fun k => if_neg (by decide)) ?_
      refine Ev.congr (fun k => if_neg (by cases p <;> decide)) ?_
      cases p with
      | false => exact Ev.congr (fun k => if_neg (by decide)) (Ev.bind awake_f (Ev.now _))
      | true =>
        obtain ⟨h4, n, h5⟩ := h3 rfl
        rw [h5] at h4
        refine Ev.congr (fun k => if_pos rfl) ?_
        cases s with
        | true =>
          rw [h2 rfl rfl]
          refine Ev.congr (fun k => if_pos rfl) (Ev.congr (fun k => if_pos rfl) ?_)
          rw [h4, h5]
          refine Ev.congr (f := fun k => (dioramalaw10_awake.f k).bind fun t => some t) (fun k => ?_) (Ev.bind awake_f (Ev.now _))
          simp only [Option.bind_some, if_true]
        | false =>
          refine Ev.congr (fun k => if_neg (by decide)) ?_
          rw [h4, h5]
          refine Ev.congr (f := fun k => (dioramalaw10_awake.f k).bind fun t => some t) (fun k => ?_) (Ev.bind awake_f (Ev.now _))
          simp only [Option.bind_some, if_true]
  have hj0 : ∀ z : Bool, (z = false → a.length ≤ 60 ∧ b.length ≤ 60) → Ev (fun k => dioramalaw10_EditEqual.j0 k a b c z) true := by
    intro z hz
    refine Ev.step (fun k => by rw [dioramalaw10_EditEqual.j0]) ?_
    cases z with
    | true => exact Ev.congr (fun k => if_pos rfl) (Ev.bind awake_f (Ev.now _))
    | false =>
      obtain ⟨la, lb⟩ := hz rfl
      refine Ev.congr (fun k => if_neg (by decide)) ?_
      refine Ev.bind (Alike_f a b 10 20) (Ev.bind (Alike_f b a 10 20) (Ev.bind (Alike_f b c 10 20) (Ev.bind (Alike_f a c 10 20) ?_)))
      by_cases ha : chk a 10 20 = 0
      · by_cases hb : chk b 10 20 = 0
        · by_cases hc : chk c 10 20 = 0
          · have e1 : aliV 10 20 a b = (decide (nrm 10 20 a = nrm 10 20 b), 0) := by unfold aliV; rw [if_pos ha, if_pos hb]
            have e2 : aliV 10 20 b a = (decide (nrm 10 20 b = nrm 10 20 a), 0) := by unfold aliV; rw [if_pos hb, if_pos ha]
            have e3 : aliV 10 20 b c = (decide (nrm 10 20 b = nrm 10 20 c), 0) := by unfold aliV; rw [if_pos hb, if_pos hc]
            have e4 : aliV 10 20 a c = (decide (nrm 10 20 a = nrm 10 20 c), 0) := by unfold aliV; rw [if_pos ha, if_pos hc]
            rw [e1, e2, e3, e4]
            refine Ev.congr (fun k => (if_pos rfl).trans ((if_pos rfl).trans (if_pos rfl))) (hj1 _ _ _ _ _ fun _ => ⟨?_, ?_, ?_⟩)
            · rw [Bool.eq_iff_iff]; simp only [decide_eq_true_eq]; exact ⟨fun h => h.symm, fun h => h.symm⟩
            · simp only [decide_eq_true_eq]; intro h1 h2; exact h1.trans h2
            · simp only [decide_eq_true_eq]
              intro h
              rw [Length_f a (by omega) wa, Length_f b (by omega) wb]
              have h1 := nrm_sum 10 20 a
              rw [h, nrm_sum] at h1
              rw [h1]
              exact ⟨rfl, _, rfl⟩
          · have e : (aliV 10 20 b c).2 ≠ 0 := by unfold aliV; rw [if_pos hb, if_neg hc]; exact hc
            by_cases e1 : (aliV 10 20 a b).2 = 0
            · by_cases e2 : (aliV 10 20 b a).2 = 0
              · exact Ev.congr (fun k => (if_pos e1).trans ((if_pos e2).trans (if_neg e))) (hj1 _ _ _ _ _ fun h => by cases h)
              · exact Ev.congr (fun k => (if_pos e1).trans (if_neg e2)) (hj1 _ _ _ _ _ fun h => by cases h)
            · exact Ev.congr (fun k => if_neg e1) (hj1 _ _ _ _ _ fun h => by cases h)
        · have e : (aliV 10 20 a b).2 ≠ 0 := by unfold aliV; rw [if_pos ha, if_neg hb]; exact hb
          exact Ev.congr (fun k => if_neg e) (hj1 _ _ _ _ _ fun h => by cases h)
      · have e : (aliV 10 20 a b).2 ≠ 0 := by unfold aliV; rw [if_neg ha]; exact ha
        exact Ev.congr (fun k => if_neg e) (hj1 _ _ _ _ _ fun h => by cases h)
  have hf : ∀ k, dioramalaw10_EditEqual.f k a b c = (some (decide (60 < a.length))).bind fun t154 => (if t154 = true then (dioramalaw10_EditEqual.j0 k a b c true) else ((some (decide (60 < b.length))).bind fun t155 => (if t155 = true then (dioramalaw10_EditEqual.j0 k a b c true) else ((some (decide (60 < c.length))).bind fun t156 => (dioramalaw10_EditEqual.j0 k a b c t156))))) := by
    intro k
    unfold dioramalaw10_EditEqual.f
    rw [many_f, many_f, many_f]
  refine Ev.congr hf ?_
  simp only [Option.bind_some, decide_eq_true_eq]
  by_cases h1 : 60 < a.length
  · exact Ev.congr (fun k => if_pos h1) (hj0 _ fun h => by cases h)
  · refine Ev.congr (fun k => if_neg h1) ?_
    by_cases h2 : 60 < b.length
    · exact Ev.congr (fun k => if_pos h2) (hj0 _ fun h => by cases h)
    · exact Ev.congr (fun k => if_neg h2) (hj0 _ fun _ => ⟨by omega, by omega⟩)
theorem in64_wf {x : Int} (h : (Lit.int .i64 x).wf = true) : in64 x = true := by
  unfold in64
  rw [← h]
  first | rfl | (simp [Lit.wf, IntKind.wf]; done) | (unfold Lit.wf; simp; done)
theorem walk (a0 : Option Addr) (n0 c0 : Nat) (l0 : List Ed) (a1 : Option Addr) (n1 c1 : Nat) (l1 : List Ed) (a2 : Option Addr) (n2 c2 : Nat) (l2 : List Ed) (w : World) (h0 : Eds w a0 n0 c0 l0) (h1 : Eds w a1 n1 c1 l1) (h2 : Eds w a2 n2 c2 l2) :
    Calls Try.prog 7 #[.slice a0 n0 c0, .slice a1 n1 c1, .slice a2 n2 c2] w (fun e w' => e = .returned (.bool true) ∧ Below w.heap.size w w') := by
  obtain ⟨k, hk⟩ := (pure_f l0 l1 l2 (fun x hx => in64_wf (h0.w x hx).d) (fun x hx => in64_wf (h1.w x hx).d)).rounds
  rw [← h0.n, ← h1.n, ← h2.n]
  exact dioramalaw10_EditEqual.calls k a0 c0 l0 a1 c1 l1 a2 c2 l2 true w h0.c h0.h h1.c h1.h h2.c h2.h hk
end Go.Proofs.Ytpbhepdgamoiaaa.Eq

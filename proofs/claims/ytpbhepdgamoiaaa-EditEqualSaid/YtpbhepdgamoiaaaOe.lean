/-
  Edits that come in, opened: a list of edits, a list with its clocks, two numbers.
-/
import Derived.Test.YtpbhepdgamoiaaaChecked
import Derived.Test.YtpbhepdgamoiaaaEx0
import Derived.Lib.SmallJoins
import Derived.ProofKit
import Derived.Deep.Slices
import Derived.Deep.Fields
import Derived.ChangeSame
namespace Go.Proofs.Ytpbhepdgamoiaaa.Oe
open Go.ChangeShapes Go.WideShapes Go.ChangeAt Go.RowKit Go.Joins Go.Deep Go.Proofs.YtpbhepdgamoiaaaW.PrintWords Go.Proofs.YtpbhepdgamoiaaaW.PrintLast Go.Proofs.YtpbhepdgamoiaaaW.PrintMore Go.Proofs.Ytpbhepdgamoiaaa.E
set_option linter.unusedVariables false

theorem laidOut : laidOutB Try.prog = true := by kernel_rfl
theorem own : ownKnob Try.prog.godebug = none := by kernel_rfl
section
variable {H : Type} {enc : TypeId × Value → H} {w : World} {base : Nat} {spare : Nat → Bool} {held : Bool}
theorem one_int {n : Nat} {v : Value} {y : DataW H × List MemPlace} (h : DataW.trod enc Try.prog w base spare held n 3 [v] = some y) : ∃ z, v = .int .i64 z ∧ (Lit.int .i64 z).wf = true := by
  obtain ⟨z, hz, _, hw⟩ := DataW.trod_int Try.underlying3 h
  simp only [List.cons.injEq, and_true] at hz
  exact ⟨z, hz, hw⟩
/-- The numbers of an edit that came in are of their kind. -/
structure WfE (x : S77) : Prop where
  d : (Lit.int .i64 x.f0).wf = true
  m : (Lit.int .i64 x.f1).wf = true
  n : (Lit.int .i64 x.f2).wf = true
  e : (Lit.int .i64 x.f3).wf = true
theorem four {α : Type} {l : List α} (h : l.length = 4) : ∃ a b c d, l = [a, b, c, d] := by
  match l, h with
  | [a, b, c, d], _ => exact ⟨a, b, c, d, rfl⟩
set_option maxRecDepth 100000 in
theorem one_edit {n : Nat} {cs : List Value} {y : DataW H × List MemPlace} (h : DataW.trod enc Try.prog w base spare held n 77 cs = some y) : ∃ x : S77, cs = [.int .i64 x.f0, .int .i64 x.f1, .int .i64 x.f2, .int .i64 x.f3] ∧ WfE x := by
  obtain ⟨xs, k, _, hx, hl, hlen, hg⟩ := DataW.trod_struct Try.underlying77 h
  obtain ⟨a, b, c, d, rfl⟩ := four (hl.trans (by kernel_rfl : Try.prog.cellsOf 77 = 4))
  obtain ⟨y0, y1, y2, y3, rfl⟩ := four hlen
  have h0 := hg 0 _ rfl
  have h1 := hg 1 _ rfl
  have h2 := hg 2 _ rfl
  have h3 := hg 3 _ rfl
  simp only [List.getElem?_cons_zero, List.getElem?_cons_succ] at h0 h1 h2 h3
  obtain ⟨z0, rfl, w0⟩ := one_int h0
  obtain ⟨z1, rfl, w1⟩ := one_int h1
  obtain ⟨z2, rfl, w2⟩ := one_int h2
  obtain ⟨z3, rfl, w3⟩ := one_int h3
  exact ⟨⟨z0, z1, z2, z3⟩, rfl, ⟨w0, w1, w2, w3⟩⟩
/-- A list of edits that came in. -/
structure Eds (w : World) (a : Option Addr) (len cap : Nat) (l : List S77) : Prop where
  n : l.length = len
  c : Kd.C k77 w a l.length l
  h : l.length ≤ cap
  w : ∀ x ∈ l, WfE x
theorem list_of {α : Type} (P : Nat → α → Prop) (n : Nat) (h : ∀ i, i < n → ∃ x, P i x) : ∃ l : List α, l.length = n ∧ ∀ i x, l[i]? = some x → P i x := by
  induction n with
  | zero => exact ⟨[], rfl, by simp⟩
  | succ n ih =>
    obtain ⟨l, hl, hp⟩ := ih (fun i hi => h i (by omega))
    obtain ⟨x, hx⟩ := h n (by omega)
    refine ⟨l ++ [x], by simp [hl], fun i y hy => ?_⟩
    by_cases hi : i < l.length
    · rw [List.getElem?_append_left hi] at hy
      exact hp i y hy
    · have hi2 : i = l.length := by
        have := (List.getElem?_eq_some_iff.1 hy).1
        simp only [List.length_append, List.length_cons, List.length_nil] at this
        omega
      subst hi2
      simp only [Nat.le_refl, List.getElem?_append_right, Nat.sub_self, List.getElem?_cons_zero, Option.some.injEq] at hy
      subst hy
      rw [hl]
      exact hx
theorem slice_edits {n : Nat} {a : Option Addr} {len cap : Nat} {y : DataW H × List MemPlace} (h : DataW.trod enc Try.prog w base spare held n 22 [.slice a len cap] = some y) : ∃ l, Eds w a len cap l := by
  rcases open_slice Try.underlying22 h with ⟨hcs, _⟩ | ⟨x, l, c, m, k, D, Pl, hcs, _, hl, hm, hmm, _, hi⟩
  · simp only [List.cons.injEq, and_true, Value.slice.injEq] at hcs
    obtain ⟨rfl, rfl, rfl⟩ := hcs
    exact ⟨[], rfl, Kd.C_nil _ _, Nat.le_refl _, by simp⟩
  · simp only [List.cons.injEq, and_true, Value.slice.injEq] at hcs
    obtain ⟨rfl, rfl, rfl⟩ := hcs
    have hC : Try.prog.cellsOf 77 = 4 := by kernel_rfl
    have hlm : len ≤ m := by rw [hmm]; split <;> omega
    obtain ⟨L, hL, hp⟩ := list_of (fun i (z : S77) => (∀ j u, ([.int .i64 z.f0, .int .i64 z.f1, .int .i64 z.f2, .int .i64 z.f3] : List Value)[j]? = some u → w.cell? (x.add (i * 4 + j)) = some u) ∧ WfE z) len (fun i hlt => by
      obtain ⟨cs', hc, ht⟩ := hi i (by omega)
      obtain ⟨z, rfl, hw⟩ := one_edit ht
      rw [hC] at hc
      obtain ⟨_, _, hat⟩ := World.cells?_some hc
      refine ⟨z, fun j u hu => ?_, hw⟩
      have hj : j < 4 := (List.getElem?_eq_some_iff.1 hu).1
      have := hat j hj
      rw [← Go.Deep.add_add, this, hu])
    refine ⟨L, hL, ⟨rfl, by have := hm; unfold maxLen at this; omega, fun _ => ⟨x, rfl, fun j p hj => ⟨_, rfl, k77_mk w p, (hp j p hj).1⟩⟩⟩, by omega, fun z hz => ?_⟩
    obtain ⟨i, hi2, he⟩ := List.getElem_of_mem hz
    exact (hp i z (by rw [List.getElem?_eq_getElem hi2, he])).2
set_option maxRecDepth 100000 in
theorem open_edits {r : Reach} {b0 : Nat} {v : Value} {d : DataW H} {p : List MemPlace} (hv : Value.okWide Try.prog w r b0 22 v) (h : DataW.Trod enc Try.prog w base spare held 22 v d p) :
    ∃ a len cap l, v = .slice a len cap ∧ Eds w a len cap l := by
  obtain ⟨a, len, cap, rfl⟩ := okWide_slice Try.underlying22 hv
  obtain ⟨fuel, hf⟩ := h
  obtain ⟨l, hl⟩ := slice_edits (a := a) (len := len) (cap := cap) hf
  exact ⟨a, len, cap, l, rfl, hl⟩
end
end Go.Proofs.Ytpbhepdgamoiaaa.Oe

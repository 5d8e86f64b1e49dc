/-
  Structs of one-cell fields, by value, opened: a time, and the five numbers of a change of scale.
-/
import Derived.Test.YtdginjpppgfdaaaChecked
import Derived.Lib.SmallJoins
import Derived.ProofKit
namespace Go.Proofs.Ytdginjpppgfdaaa.O5
open Go.ChangeShapes Go.WideShapes Go.ChangeAt Go.RowKit Go.Joins Go.Deep
set_option linter.unusedVariables false

theorem array5 {α : Type} {cs : Array α} (h : cs.size = 5) : ∃ c0 c1 c2 c3 c4, cs = #[c0, c1, c2, c3, c4] := by
  obtain ⟨l⟩ := cs
  match l, h with
  | [c0, c1, c2, c3, c4], _ => exact ⟨c0, c1, c2, c3, c4, rfl⟩
theorem open_five {H : Type} {enc : TypeId × Value → H} {P : Program} {w : World} {base : Nat} {spare : Nat → Bool} {held : Bool} {r : Reach} {b0 : Nat} {t : TypeId} {f0 f1 f2 f3 f4 : Field} {v : Value} {d : DataW H} {p : List MemPlace} (hs : P.underlying t = some (.struct #[f0, f1, f2, f3, f4])) (hone : oneCellFields P #[f0, f1, f2, f3, f4] = true) (hC : P.cellsOf t = 5)
    (hv : Value.okWide P w r b0 t v) (h : DataW.Trod enc P w base spare held t v d p) :
    ∃ (v0 v1 v2 v3 v4 : Value) (y0 y1 y2 y3 y4 : DataW H × List MemPlace) (n : Nat), v = .agg #[v0, v1, v2, v3, v4] ∧
      DataW.trod enc P w base spare held n f0.type [v0] = some y0 ∧ DataW.trod enc P w base spare held n f1.type [v1] = some y1 ∧ DataW.trod enc P w base spare held n f2.type [v2] = some y2 ∧ DataW.trod enc P w base spare held n f3.type [v3] = some y3 ∧ DataW.trod enc P w base spare held n f4.type [v4] = some y4 := by
  obtain ⟨cs, rfl, hsz⟩ := okWide_struct hs hv
  obtain ⟨c0, c1, c2, c3, c4, rfl⟩ := array5 (hsz.trans hC)
  obtain ⟨fuel, hf⟩ := h
  obtain ⟨xs, n, _, hx, hl, hlen, hg⟩ := DataW.trod_struct hs hf
  match xs, hlen with
  | [y0, y1, y2, y3, y4], _ =>
    obtain ⟨o0, k0⟩ := hone_of hone 0 f0 rfl
    obtain ⟨o1, k1⟩ := hone_of hone 1 f1 rfl
    obtain ⟨o2, k2⟩ := hone_of hone 2 f2 rfl
    obtain ⟨o3, k3⟩ := hone_of hone 3 f3 rfl
    obtain ⟨o4, k4⟩ := hone_of hone 4 f4 rfl
    exact ⟨c0, c1, c2, c3, c4, y0, y1, y2, y3, y4, n, rfl, by simpa [Value.cells, o0, k0] using hg 0 f0 rfl, by simpa [Value.cells, o1, k1] using hg 1 f1 rfl, by simpa [Value.cells, o2, k2] using hg 2 f2 rfl, by simpa [Value.cells, o3, k3] using hg 3 f3 rfl, by simpa [Value.cells, o4, k4] using hg 4 f4 rfl⟩
theorem one_int {H : Type} {enc : TypeId × Value → H} {w : World} {base : Nat} {spare : Nat → Bool} {held : Bool} {n : Nat} {v : Value} {y : DataW H × List MemPlace} (h : DataW.trod enc Try.prog w base spare held n 3 [v] = some y) : ∃ z, v = .int .i64 z ∧ (Lit.int .i64 z).wf = true := by
  obtain ⟨z, hz, _, hw⟩ := DataW.trod_int Try.underlying3 h
  simp only [List.cons.injEq, and_true] at hz
  exact ⟨z, hz, hw⟩
set_option maxRecDepth 100000 in
theorem open_time {H : Type} {enc : TypeId × Value → H} {w : World} {base : Nat} {spare : Nat → Bool} {held : Bool} {r : Reach} {b0 : Nat} {v : Value} {d : DataW H} {p : List MemPlace} (hv : Value.okWide Try.prog w r b0 25 v) (h : DataW.Trod enc Try.prog w base spare held 25 v d p) :
    ∃ n m : Int, v = .agg #[.int .i64 n, .int .i64 m] ∧ (Lit.int .i64 n).wf = true ∧ (Lit.int .i64 m).wf = true := by
  obtain ⟨v0, v1, y0, y1, k, rfl, _, _, h0, h1⟩ := open_agg2 Try.underlying25 (by kernel_rfl) (by kernel_rfl) hv h
  obtain ⟨n, rfl, hn⟩ := one_int h0
  obtain ⟨m, rfl, hm⟩ := one_int h1
  exact ⟨n, m, rfl, hn, hm⟩
set_option maxRecDepth 100000 in
theorem open_ways {H : Type} {enc : TypeId × Value → H} {w : World} {base : Nat} {spare : Nat → Bool} {held : Bool} {r : Reach} {b0 : Nat} {v : Value} {d : DataW H} {p : List MemPlace} (hv : Value.okWide Try.prog w r b0 23 v) (h : DataW.Trod enc Try.prog w base spare held 23 v d p) :
    ∃ t f k m b : Int, v = .agg #[.int .i64 t, .int .i64 f, .int .i64 k, .int .i64 m, .int .i64 b] ∧ (Lit.int .i64 t).wf = true ∧ (Lit.int .i64 f).wf = true ∧ (Lit.int .i64 k).wf = true ∧ (Lit.int .i64 m).wf = true ∧ (Lit.int .i64 b).wf = true := by
  obtain ⟨v0, v1, v2, v3, v4, y0, y1, y2, y3, y4, k, rfl, h0, h1, h2, h3, h4⟩ := open_five Try.underlying23 (by kernel_rfl) (by kernel_rfl) hv h
  obtain ⟨t, rfl, ht⟩ := one_int h0
  obtain ⟨f, rfl, hf⟩ := one_int h1
  obtain ⟨s, rfl, hs⟩ := one_int h2
  obtain ⟨m, rfl, hm⟩ := one_int h3
  obtain ⟨b, rfl, hb⟩ := one_int h4
  exact ⟨t, f, s, m, b, rfl, ht, hf, hs, hm, hb⟩
theorem laidOut : laidOutB Try.prog = true := by kernel_rfl
theorem own : ownKnob Try.prog.godebug = none := by kernel_rfl
end Go.Proofs.Ytdginjpppgfdaaa.O5

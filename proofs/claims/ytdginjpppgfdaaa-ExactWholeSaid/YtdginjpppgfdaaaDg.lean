/-
  Numbers that are made in an order that is open: what is known of those that have been made, in whatever order.
-/
import Derived.Test.YtdginjpppgfdaaaQb
namespace Go.Proofs.Ytdginjpppgfdaaa.Dg
open Go.RowKit Go Go.Proofs.YtdginjpppgfdaaaW.PrintWords Go.Proofs.YtdginjpppgfdaaaW.PrintLast Go.Proofs.YtdginjpppgfdaaaW.PrintMore Go.Proofs.Ytdginjpppgfdaaa.Nd Go.Proofs.Ytdginjpppgfdaaa.Nc
set_option linter.unusedVariables false

/-- What lies at a block: room for a number, or a number. -/
def At (w : World) (g : Nat) : Option (Int × Nat) → Prop
  | none => Room w g 0
  | some x => IsN w g 0 x.1 x.2
theorem At.below {w w' : World} {g : Nat} {k : Option (Int × Nat)} (h : At w g k) (hb : Below w.heap.size w w') : At w' g k := by
  cases k with
  | none => exact Room.below h hb
  | some x => exact IsN.below h hb
theorem At.lt {w : World} {g : Nat} {k : Option (Int × Nat)} (h : At w g k) : g < w.heap.size := by
  cases k with
  | none => exact Room.lt h
  | some x => exact IsN.lt h
/-- What has been made since W0. -/
structure Dag (W0 w : World) (l : List (Nat × Option (Int × Nat))) : Prop where
  b : Below W0.heap.size W0 w
  at_ : ∀ x ∈ l, At w x.1 x.2
  new : ∀ x ∈ l, W0.heap.size ≤ x.1
  ne : l.Pairwise (fun x y => x.1 ≠ y.1)
theorem Dag.start (W0 : World) : Dag W0 W0.drew [] := ⟨below_drew' (Below.refl _ _), by simp, by simp, List.Pairwise.nil⟩
theorem Dag.start' (W0 : World) : Dag W0 W0 [] := ⟨Below.refl _ _, by simp, by simp, List.Pairwise.nil⟩
theorem Dag.add {W0 w w' : World} (l1 l2 : List (Nat × Option (Int × Nat))) {g : Nat} {k : Option (Int × Nat)} (h : Dag W0 w (l1 ++ l2)) (hg : w.heap.size ≤ g) (hb : Below w.heap.size w w') (hk : At w' g k) : Dag W0 w' (l1 ++ (g, k) :: l2) := by
  have hs := h.b.size
  refine ⟨h.b.trans (hb.mono hs), ?_, ?_, ?_⟩
  · intro x hx
    simp only [List.mem_append, List.mem_cons] at hx
    rcases hx with hx | rfl | hx
    · exact (h.at_ x (by simp [hx])).below hb
    · exact hk
    · exact (h.at_ x (by simp [hx])).below hb
  · intro x hx
    simp only [List.mem_append, List.mem_cons] at hx
    rcases hx with hx | rfl | hx
    · exact h.new x (by simp [hx])
    · exact Nat.le_trans hs hg
    · exact h.new x (by simp [hx])
  · have hp := h.ne
    rw [List.pairwise_append] at hp ⊢
    obtain ⟨p1, p2, p3⟩ := hp
    refine ⟨p1, ?_, ?_⟩
    · rw [List.pairwise_cons]
      exact ⟨fun y hy => by have := (h.at_ y (by simp [hy])).lt; show g ≠ y.1; omega, p2⟩
    · intro x hx y hy
      simp only [List.mem_cons] at hy
      rcases hy with rfl | hy
      · have := (h.at_ x (by simp [hx])).lt
        show x.1 ≠ g
        omega
      · exact p3 x hx y hy
theorem Dag.room {W0 w : World} {l : List (Nat × Option (Int × Nat))} (h : Dag W0 w l) {g : Nat} (hm : (g, none) ∈ l) : Room w g 0 := h.at_ _ hm
theorem Dag.num {W0 w : World} {l : List (Nat × Option (Int × Nat))} (h : Dag W0 w l) {g : Nat} {z : Int} {n : Nat} (hm : (g, some (z, n)) ∈ l) : IsN w g 0 z n := h.at_ _ hm
end Go.Proofs.Ytdginjpppgfdaaa.Dg

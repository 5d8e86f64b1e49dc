/-
  valid and little: two times are looked at by a function.
-/
import Derived.Test.YtdginjpppgfdaaaEc
namespace Go.Proofs.Ytdginjpppgfdaaa.Ed
open Go.RowKit Go Go.Proofs.YtdginjpppgfdaaaW.PrintWords Go.Proofs.YtdginjpppgfdaaaW.PrintLast Go.Proofs.YtdginjpppgfdaaaW.PrintMore Go.Proofs.Ytdginjpppgfdaaa.Ml Go.Proofs.Ytdginjpppgfdaaa.Mn Go.Proofs.Ytdginjpppgfdaaa.Nd Go.Proofs.Ytdginjpppgfdaaa.P Go.Proofs.Ytdginjpppgfdaaa.Nc Go.Proofs.Ytdginjpppgfdaaa.Nb Go.Proofs.Ytdginjpppgfdaaa.Qa Go.Proofs.Ytdginjpppgfdaaa.Qb Go.Proofs.Ytdginjpppgfdaaa.Ea Go.Proofs.Ytdginjpppgfdaaa.Eb Go.Proofs.Ytdginjpppgfdaaa.Ec
set_option linter.unusedVariables false
set_option linter.unusedSimpArgs false

/-- Two times in a row of their own. -/
def Pair (w : World) (g : Nat) (n1 d1 n2 d2 : Int) : Prop := w.heap[g]? = some (.cells #[.int .i64 n1, .int .i64 d1, .int .i64 n2, .int .i64 d2] 25 (0, 0))
set_option maxHeartbeats 4000000 in
set_option maxRecDepth 100000 in
theorem index2_n (F : Nat) (p : Int → Int → Bool) (g : Nat) (n1 d1 n2 d2 : Int) (w : World) (hp : Pair w g n1 d1 n2 d2) (hE : ∀ args w, Sem.run Try.prog (callFunc F args) w = .ok (.enter F args) w)
    (hF : ∀ n d w, Calls Try.prog F #[tm n d] w (fun e w' => e = .returned (.bool (p n d)) ∧ Below w.heap.size w w')) :
    Calls Try.prog 111 #[.slice (some ⟨g, 0, none⟩) 2 2, .func (.func F) #[] #[]] w (fun e w' => ∃ i : Int, e = .returned (.int .i64 i) ∧ decide (0 ≤ i) = (p n1 d1 || p n2 d2) ∧ Below w.heap.size w w') := by
  have hu := Try.underlying25
  go_enter Try.func111, Try.ntmps111
  go_wp2_with fail
  go_loopg [8] 2 (fun kq v8 w' => ∃ i : Nat, v8 = .int .i64 (i : Int) ∧ Aside0 (i + kq = 2) ∧ Aside0 (Below w.heap.size w w') ∧ Aside0 (i = 0 ∨ p n1 d1 = false) ∧ Aside0 (i ≤ 1 ∨ p n2 d2 = false))
  case atStart => exact ⟨0, rfl, ⟨rfl⟩, ⟨Below.refl _ _⟩, ⟨.inl rfl⟩, ⟨.inl (by decide)⟩⟩
  case round =>
    obtain ⟨i, rfl, HK, HB, H1, H2⟩ := hrel
    cases gk with
    | zero =>
      obtain rfl : i = 2 := HK.out
      have q1 : p n1 d1 = false := by have := H1.out; simpa using this
      have q2 : p n2 d2 = false := by have := H2.out; simpa using this
      go_wp2_with fail
      go_ret
      exact ⟨_, rfl, by first | decide | (simp [q1, q2]; done) | simp [*], HB.out⟩
    | succ k1 =>
      have hi : i = 0 ∨ i = 1 := by have := HK.out; omega
      have hbk := blk_below hp HB.out
      rcases hi with rfl | rfl
      · have hc0 : wr.cell? ⟨g, 0, none⟩ = some (.int .i64 n1) := (blk_cell hbk 0).trans rfl
        have hc1 : wr.cell? ⟨g, 1, none⟩ = some (.int .i64 d1) := (blk_cell hbk 1).trans rfl
        go_wp2_with fail
        refine (hF n1 d1 _).mono ?_
        rintro e w2 ⟨rfl, hb2⟩
        have HB2 := Aside0.mk (HB.out.trans (hb2.mono HB.out.size))
        cases hq : p n1 d1 with
        | true =>
          go_wp2_with fail
          go_ret
          exact ⟨_, rfl, by first | decide | (simp [hq]; done) | simp [*], HB2.out⟩
        | false =>
          go_wp2_with fail
          go_roundg k1
          case measure => omega
          case rel => exact ⟨1, rfl, ⟨by have := HK.out; omega⟩, HB2, ⟨.inr hq⟩, ⟨.inl (Nat.le_refl _)⟩⟩
      · have hc0 : wr.cell? ⟨g, 2, none⟩ = some (.int .i64 n2) := (blk_cell hbk 2).trans rfl
        have hc1 : wr.cell? ⟨g, 3, none⟩ = some (.int .i64 d2) := (blk_cell hbk 3).trans rfl
        have q1 : p n1 d1 = false := by have := H1.out; simpa using this
        go_wp2_with fail
        refine (hF n2 d2 _).mono ?_
        rintro e w2 ⟨rfl, hb2⟩
        have HB2 := Aside0.mk (HB.out.trans (hb2.mono HB.out.size))
        cases hq : p n2 d2 with
        | true =>
          go_wp2_with fail
          go_ret
          exact ⟨_, rfl, by first | decide | (simp [hq, q1]; done) | simp [*], HB2.out⟩
        | false =>
          go_wp2_with fail
          go_roundg k1
          case measure => omega
          case rel => exact ⟨2, rfl, ⟨by have := HK.out; omega⟩, HB2, ⟨.inr q1⟩, ⟨.inr hq⟩⟩
set_option maxHeartbeats 1000000 in
theorem has2_n (F : Nat) (p : Int → Int → Bool) (g : Nat) (n1 d1 n2 d2 : Int) (w : World) (hp : Pair w g n1 d1 n2 d2) (hE : ∀ args w, Sem.run Try.prog (callFunc F args) w = .ok (.enter F args) w)
    (hF : ∀ n d w, Calls Try.prog F #[tm n d] w (fun e w' => e = .returned (.bool (p n d)) ∧ Below w.heap.size w w')) :
    Calls Try.prog 82 #[.slice (some ⟨g, 0, none⟩) 2 2, .func (.func F) #[] #[]] w (ValP w (.bool (p n1 d1 || p n2 d2))) := by
  go_enter Try.func82, Try.ntmps82
  go_wp2_with fail
  refine (index2_n F p g n1 d1 n2 d2 w hp hE hF).mono ?_
  rintro e w2 ⟨i, rfl, hi, hb2⟩
  go_wp2_with fail
  go_ret
  exact ⟨ret_b (by first | exact hi | rfl), hb2⟩
set_option maxHeartbeats 1000000 in
theorem notValid_n (n d : Int) (w : World) : Calls Try.prog 83 #[tm n d] w (fun e w' => e = .returned (.bool (!valid n d)) ∧ Below w.heap.size w w') := by
  have hu := Try.underlying25
  unfold tm
  go_enter Try.func83, Try.ntmps83
  go_wp2_with fail
  refine (Valid_n n d _).mono ?_
  rintro e w2 ⟨rfl, hb2⟩
  go_wp2_with fail
  go_ret
  exact ⟨rfl, (below_alloc (Below.refl _ w) _).trans (hb2.mono (by simp))⟩
def small (n d : Int) : Bool := decide (n < 1073741824) && decide (-1073741824 < n) && decide (d < 1073741824)
set_option maxHeartbeats 1000000 in
set_option maxRecDepth 100000 in
theorem large_n (n d : Int) (w : World) : Calls Try.prog 112 #[tm n d] w (fun e w' => e = .returned (.bool (!small n d)) ∧ Below w.heap.size w w') := by
  have hu := Try.underlying25
  unfold tm
  go_enter Try.func112, Try.ntmps112
  go_wp2
  all_goals
    go_ret
    refine ⟨ret_b ?_, below_alloc (Below.refl _ _) _⟩
    unfold small
    first | (simp_all; done) | (simp_all; omega) | grind
end Go.Proofs.Ytdginjpppgfdaaa.Ed

/-
  ExactWhole: a time of whole ticks gives them back.
-/
import Derived.Test.YtdginjpppgfdaaaEg
import Derived.Test.YtdginjpppgfdaaaLa
namespace Go.Proofs.Ytdginjpppgfdaaa.Wh
open Go.RowKit Go Go.Proofs.YtdginjpppgfdaaaW.PrintWords Go.Proofs.YtdginjpppgfdaaaW.PrintLast Go.Proofs.YtdginjpppgfdaaaW.PrintMore Go.Proofs.Ytdginjpppgfdaaa.Nd Go.Proofs.Ytdginjpppgfdaaa.Mn Go.Proofs.Ytdginjpppgfdaaa.Ea Go.Proofs.Ytdginjpppgfdaaa.Eb Go.Proofs.Ytdginjpppgfdaaa.Ec Go.Proofs.Ytdginjpppgfdaaa.Ed Go.Proofs.Ytdginjpppgfdaaa.Ee Go.Proofs.Ytdginjpppgfdaaa.Eg Go.Proofs.Ytdginjpppgfdaaa.La
set_option linter.unusedVariables false
set_option linter.unusedSimpArgs false

theorem whole_ticks (t s h : Int) (ht : isTicks t = true) (hs : isScale s = true) (hh : isHow h = true) : vTicks (lowN t s) (lowD t s) s h = .tuple #[.int .i64 t, .int .i64 0] := by
  have ht2 : -1099511627776 ≤ t ∧ t ≤ 1099511627776 := by unfold isTicks at ht; simpa using ht
  have hs2 : 1 ≤ s ∧ s ≤ 1000000 := by unfold isScale at hs; simpa using hs
  rw [vTicks_whole t s s h t hs2.1 (low_valid hs2.1 (by omega) (by omega) (by omega)) hs hh rfl]
  have : big t = false := by unfold big; simp; omega
  rw [this]
  rfl
theorem whole_whole (t s : Int) (ht : isTicks t = true) (hs : isScale s = true) : vWhole (lowN t s) (lowD t s) s = .tuple #[.int .i64 t, .int .i64 0] := by
  have ht2 : -1099511627776 ≤ t ∧ t ≤ 1099511627776 := by unfold isTicks at ht; simpa using ht
  have hs2 : 1 ≤ s ∧ s ≤ 1000000 := by unfold isScale at hs; simpa using hs
  obtain ⟨g, hg, e1, e2, e3⟩ := low_spec t s hs2.1
  have e4 : lowN t s * s = t * lowD t s := by
    have : (lowN t s * s - t * lowD t s) * g = 0 := by
      rw [Int.sub_mul, Int.mul_assoc, Int.mul_comm s g, ← Int.mul_assoc, ← e1, Int.mul_assoc, ← e2]
      omega
    rcases Int.mul_eq_zero.1 this with h | h <;> omega
  have : big t = false := by unfold big; simp; omega
  unfold vWhole
  rw [low_valid hs2.1 (by omega) (by omega) (by omega), hs, e4, Int.mul_tmod_left, Int.mul_tdiv_cancel _ (by omega), this]
  rfl
set_option maxHeartbeats 16000000 in
set_option maxRecDepth 100000 in
theorem walk (t s : Int) (w : World) (_ : (Lit.int .i64 t).wf = true) (_ : (Lit.int .i64 s).wf = true) :
    Calls Try.prog 14 #[.int .i64 t, .int .i64 s] w (fun e w' => e = .returned (.bool true) ∧ Below w.heap.size w w') := by
  have hu := Try.underlying25
  have hF := From_n t s
  unfold vFrom two tm er at hF
  cases hts : (isTicks t && isScale s) with
  | false =>
    have HF := Aside0.mk hF
    clear hF
    rw [hts] at HF
    go_enter Try.func14, Try.ntmps14
    go_wp2_with fail
    refine (HF.out _).mono ?_
    rintro e w2 ⟨rfl, hb2⟩
    rw [if_neg (by decide)]
    go_wp2_with fail
    refine (awake_n _).mono ?_
    rintro e w4 ⟨rfl, hb4⟩
    have h1 := below_alloc hb2 (.cells #[.int .i64 0, .int .i64 0] 25)
    go_wp2_with fail
    go_ret
    exact ⟨rfl, h1.trans (hb4.mono h1.size)⟩
  | true =>
    simp only [Bool.and_eq_true] at hts
    obtain ⟨ht, hs⟩ := hts
    have hT := fun h hh w => (whole_ticks t s h ht hs hh) ▸ Ticks_n (lowN t s) (lowD t s) s h w
    have hW := fun w => (whole_whole t s ht hs) ▸ Whole_n (lowN t s) (lowD t s) s w
    rw [ht, hs] at hF
    generalize lowN t s = N at *
    generalize lowD t s = D at *
    unfold tm at hT hW
    have HF := Aside0.mk (And.intro hF (And.intro hT hW))
    clear hF hT hW ht hs
    go_enter Try.func14, Try.ntmps14
    go_wp2_with fail
    refine (HF.out.1 _).mono ?_
    rintro e w2 ⟨rfl, hb2⟩
    rw [if_pos (by decide)]
    have hbk := blk_new w2 (.cells #[.int .i64 N, .int .i64 D] 25)
    have HB := Aside0.mk (below_alloc hb2 (.cells #[.int .i64 N, .int .i64 D] 25))
    clear hb2
    go_wp2_with fail
    go_loopg [7] 3 (fun kq v7 w' => ∃ i : Nat, v7 = .int .i64 (i : Int) ∧ Aside0 (i + kq = 3) ∧ Aside0 (Below w.heap.size w w') ∧ Aside0 (w'.heap[w2.heap.size]? = some (.cells #[.int .i64 N, .int .i64 D] 25 (0, 0))))
    case atStart => exact ⟨0, rfl, ⟨rfl⟩, HB, ⟨hbk⟩⟩
    case round =>
      obtain ⟨i, rfl, HK, HB1, HC⟩ := hrel
      have hc0 : wr.cell? ⟨w2.heap.size, 0, none⟩ = some (.int .i64 N) := (blk_cell HC.out 0).trans rfl
      have hc1 : wr.cell? ⟨w2.heap.size, 1, none⟩ = some (.int .i64 D) := (blk_cell HC.out 1).trans rfl
      cases gk with
      | zero =>
        obtain rfl : i = 3 := HK.out
        go_wp2_with fail
        refine (HF.out.2.2 _).mono ?_
        rintro e w3 ⟨rfl, hb3⟩
        have HB3 := Aside0.mk (HB1.out.trans (hb3.mono HB1.out.size))
        clear hb3 hc0 hc1
        go_wp2_with fail
        refine (awake_n _).mono ?_
        rintro e w4 ⟨rfl, hb4⟩
        go_wp2_with fail
        go_ret
        exact ⟨rfl, HB3.out.trans (hb4.mono HB3.out.size)⟩
      | succ k1 =>
        have hi : i = 0 ∨ i = 1 ∨ i = 2 := by have := HK.out; omega
        have hh : isHow (i : Int) = true := by rcases hi with rfl | rfl | rfl <;> rfl
        have HH := Aside0.mk hh
        clear hh
        have hlt : decide ((i : Int) < 3) = true := by simp; omega
        clear hi
        go_wp2_with fail
        refine (HF.out.2.1 _ HH.out _).mono ?_
        rintro e w3 ⟨rfl, hb3⟩
        have HB3 := Aside0.mk (HB1.out.trans (hb3.mono HB1.out.size))
        have HC3 := Aside0.mk (blk_below HC.out hb3)
        clear hb3 hc0 hc1
        have hlt2 : (i : Int) < 3 := by simpa using hlt
        go_wp2_with fail
        go_roundg k1
        case measure => omega
        case rel => exact ⟨i + 1, by go_num, ⟨by have := HK.out; omega⟩, HB3, HC3⟩
end Go.Proofs.Ytdginjpppgfdaaa.Wh

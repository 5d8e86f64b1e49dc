/-
  exact.Rescale; valid, little, cmp, add; the law's awake.
-/
import Derived.Test.YtdginjpppgfdaaaEb
namespace Go.Proofs.Ytdginjpppgfdaaa.Ec
open Go.RowKit Go Go.Proofs.YtdginjpppgfdaaaW.PrintWords Go.Proofs.YtdginjpppgfdaaaW.PrintLast Go.Proofs.YtdginjpppgfdaaaW.PrintMore Go.Proofs.Ytdginjpppgfdaaa.Ml Go.Proofs.Ytdginjpppgfdaaa.Mn Go.Proofs.Ytdginjpppgfdaaa.Nd Go.Proofs.Ytdginjpppgfdaaa.P Go.Proofs.Ytdginjpppgfdaaa.Nc Go.Proofs.Ytdginjpppgfdaaa.Nb Go.Proofs.Ytdginjpppgfdaaa.Qa Go.Proofs.Ytdginjpppgfdaaa.Qb Go.Proofs.Ytdginjpppgfdaaa.Ea Go.Proofs.Ytdginjpppgfdaaa.Eb
set_option linter.unusedVariables false
set_option linter.unusedSimpArgs false

/-- Ticks always answer two whole numbers. -/
theorem vTicks_form (n d s h : Int) : ∃ q e, vTicks n d s h = .tuple #[.int .i64 q, .int .i64 e] := by
  unfold vTicks two er
  repeat' split
  all_goals exact ⟨_, _, rfl⟩
def vRescale (t f s h : Int) : Value := if isTicks t && isScale f then vTicks (lowN t f) (lowD t f) s h else .tuple #[.int .i64 0, .int .i64 1]
set_option maxHeartbeats 4000000 in
set_option maxRecDepth 100000 in
theorem Rescale_n (t f s h : Int) (w : World) : Calls Try.prog 19 #[.int .i64 t, .int .i64 f, .int .i64 s, .int .i64 h] w (ValP w (vRescale t f s h)) := by
  have hu := Try.underlying25
  have hF := From_n t f w
  cases hc : (isTicks t && isScale f) with
  | false =>
    rw [show vRescale t f s h = .tuple #[.int .i64 0, .int .i64 1] by unfold vRescale; rw [hc]; rfl]
    rw [show vFrom t f = .tuple #[.agg #[.int .i64 0, .int .i64 0], .int .i64 1] by unfold vFrom; rw [hc]; rfl] at hF
    have HF := Aside0.mk hF
    clear hF
    go_enter Try.func19, Try.ntmps19
    go_wp2_with fail
    refine HF.out.mono ?_
    rintro e w2 ⟨rfl, hb2⟩
    go_wp2_with fail
    go_ret2
    exact ⟨rfl, below_alloc hb2 _⟩
  | true =>
    obtain ⟨q, e, hq⟩ := vTicks_form (lowN t f) (lowD t f) s h
    have hT := fun w => Ticks_n (lowN t f) (lowD t f) s h w
    rw [show vRescale t f s h = .tuple #[.int .i64 q, .int .i64 e] by unfold vRescale; rw [hc, hq]; rfl]
    rw [show vFrom t f = .tuple #[.agg #[.int .i64 (lowN t f), .int .i64 (lowD t f)], .int .i64 0] by unfold vFrom; rw [hc]; rfl] at hF
    rw [hq] at hT
    have HF := Aside0.mk hF
    have HT := Aside0.mk hT
    clear hF hT hq
    go_enter Try.func19, Try.ntmps19
    go_wp2_with fail
    refine HF.out.mono ?_
    rintro e2 w2 ⟨rfl, hb2⟩
    go_wp2_with fail
    refine (HT.out _).mono ?_
    rintro e3 w3 ⟨rfl, hb3⟩
    go_wp2_with fail
    go_ret2
    have h1 := below_alloc hb2 (.cells #[.int .i64 (lowN t f), .int .i64 (lowD t f)] 25)
    exact ⟨rfl, h1.trans (hb3.mono h1.size)⟩
end Go.Proofs.Ytdginjpppgfdaaa.Ec

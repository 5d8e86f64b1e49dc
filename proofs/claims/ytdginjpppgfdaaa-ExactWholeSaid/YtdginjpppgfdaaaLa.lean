/-
  Plain laws of ticks: whole ticks stay whole.
-/
import Derived.Test.YtdginjpppgfdaaaEc
namespace Go.Proofs.Ytdginjpppgfdaaa.La
open Go.RowKit Go Go.Proofs.Ytdginjpppgfdaaa.Ea Go.Proofs.Ytdginjpppgfdaaa.Eb Go.Proofs.Ytdginjpppgfdaaa.Ec
set_option linter.unusedVariables false
set_option linter.unusedSimpArgs false

theorem low_spec (n d : Int) (hd : 1 ≤ d) : ∃ g : Int, 1 ≤ g ∧ n = lowN n d * g ∧ d = lowD n d * g ∧ 1 ≤ lowD n d := by
  have hg : 1 ≤ ((Int.gcd n d : Nat) : Int) := by
    have := Int.gcd_pos_of_ne_zero_right n (show d ≠ 0 by omega)
    omega
  have e2 : d = lowD n d * (Int.gcd n d : Int) := (Int.ediv_mul_cancel (Int.gcd_dvd_right n d)).symm
  refine ⟨(Int.gcd n d : Int), hg, (Int.ediv_mul_cancel (Int.gcd_dvd_left n d)).symm, e2, ?_⟩
  refine Int.le_of_not_gt fun h0 => ?_
  have h : lowD n d ≤ 0 := by omega
  have : lowD n d * (Int.gcd n d : Int) ≤ 0 * (Int.gcd n d : Int) := Int.mul_le_mul_of_nonneg_right h (by omega)
  omega
theorem low_valid {n d : Int} (hd : 1 ≤ d) (hd2 : d ≤ 1152921504606846976) (h0 : -1152921504606846976 ≤ n) (h1 : n ≤ 1152921504606846976) : valid (lowN n d) (lowD n d) = true := by
  obtain ⟨g, hg, e1, e2, e3⟩ := low_spec n d hd
  have b1 : lowD n d * 1 ≤ lowD n d * g := Int.mul_le_mul_of_nonneg_left hg (by omega)
  have b2 : -1152921504606846976 ≤ lowN n d ∧ lowN n d ≤ 1152921504606846976 := by
    generalize lowN n d = x at *
    rcases Int.lt_or_le x 0 with h | h
    · have : (-x) * 1 ≤ (-x) * g := Int.mul_le_mul_of_nonneg_left hg (by omega)
      simp only [Int.neg_mul] at this
      omega
    · have : x * 1 ≤ x * g := Int.mul_le_mul_of_nonneg_left hg (by omega)
      omega
  unfold valid
  simp
  omega
theorem rnd_exact (h m d : Int) (hd : 0 < d) : rnd h (m * d) d = m := by
  unfold rnd
  split
  · rw [show m * d + d - 1 = (d - 1) + m * d by omega, Int.add_mul_ediv_right _ _ (by omega), Int.ediv_eq_zero_of_lt (by omega) (by omega)]
    omega
  · split
    · rw [show m * d * 2 + d = d + m * (d * 2) by rw [← Int.mul_assoc]; omega, Int.add_mul_ediv_right _ _ (by omega), Int.ediv_eq_zero_of_lt (by omega) (by omega)]
      omega
    · exact Int.mul_ediv_cancel _ (by omega)
/-- Ticks at a scale, told at a multiple of it. -/
theorem vTicks_whole (t f s h m : Int) (hf : 1 ≤ f) (hv : valid (lowN t f) (lowD t f) = true) (hs : isScale s = true) (hh : isHow h = true) (hm : t * s = m * f) : vTicks (lowN t f) (lowD t f) s h = if big m then two (.int .i64 0) (er 2) else two (.int .i64 m) (er 0) := by
  obtain ⟨g, hg, e1, e2, e3⟩ := low_spec t f hf
  have e4 : lowN t f * s = m * lowD t f := by
    have : (lowN t f * s - m * lowD t f) * g = 0 := by
      rw [Int.sub_mul, Int.mul_assoc, Int.mul_comm s g, ← Int.mul_assoc, ← e1, Int.mul_assoc, ← e2]
      omega
    rcases Int.mul_eq_zero.1 this with h | h <;> omega
  unfold vTicks
  rw [hv, hs, hh, e4, rnd_exact h m _ (by omega)]
  rfl
theorem scales (t f k h b n : Int) (hf : 1 ≤ f) (hf2 : f ≤ 1000000) (hk : 1 ≤ k) (hk2 : k ≤ 1000000) (hh : isHow h = true) (hb : isHow b = true) (e : vRescale t f (f * k) h = two (.int .i64 n) (er 0)) : vRescale n (f * k) f b = two (.int .i64 t) (er 0) := by
  have hF : isScale f = true := by unfold isScale; simp; omega
  have hfk : 1 ≤ f * k := by have := Int.mul_le_mul_of_nonneg_right hf (show 0 ≤ k by omega); omega
  unfold vRescale at e ⊢
  rw [hF] at e
  cases ht : isTicks t with
  | false => rw [ht] at e; simp [two, er] at e
  | true =>
    rw [ht] at e
    have ht2 : -1099511627776 ≤ t ∧ t ≤ 1099511627776 := by unfold isTicks at ht; simpa using ht
    have hv := low_valid (n := t) hf (by omega) (by omega) (by omega)
    cases hs : isScale (f * k) with
    | false =>
      simp only [Bool.and_self, if_true] at e
      unfold vTicks at e
      rw [hv, hs] at e
      simp [two, er] at e
    | true =>
      simp only [Bool.and_self, if_true] at e
      rw [vTicks_whole t f (f * k) h (t * k) hf hv hs hh (by grind)] at e
      cases hB : big (t * k) with
      | true => rw [hB] at e; simp [two, er] at e
      | false =>
        rw [hB] at e
        simp only [two, er, Bool.false_eq_true, if_false] at e
        have hn : n = t * k := by
          injection e with e
          have := congrArg (fun a => a[0]?) e
          simp at this
          exact this.symm
        have hnb : ¬ 1099511627776 < (n.natAbs : Int) := by rw [hn]; unfold big at hB; simpa using hB
        have hnt : isTicks n = true := by unfold isTicks; simp; omega
        have hfk2 : f * k ≤ 1000000 := by unfold isScale at hs; simp at hs; exact hs.2
        have hv2 := low_valid (n := n) hfk (by omega) (by omega) (by omega)
        rw [hnt]
        simp only [Bool.and_self, if_true]
        rw [vTicks_whole n (f * k) f b t hfk hv2 hF hb (by rw [hn]; grind)]
        have : big t = false := by unfold big; simp; omega
        rw [this]
        rfl
end Go.Proofs.Ytdginjpppgfdaaa.La

/-
  The walk of ExactScales.
-/
import Derived.Test.YtdginjpppgfdaaaEe
import Derived.Test.YtdginjpppgfdaaaLa
namespace Go.Proofs.Ytdginjpppgfdaaa.Sc
open Go.RowKit Go Go.Proofs.YtdginjpppgfdaaaW.PrintWords Go.Proofs.YtdginjpppgfdaaaW.PrintLast Go.Proofs.YtdginjpppgfdaaaW.PrintMore Go.Proofs.Ytdginjpppgfdaaa.Nd Go.Proofs.Ytdginjpppgfdaaa.Mn Go.Proofs.Ytdginjpppgfdaaa.Ea Go.Proofs.Ytdginjpppgfdaaa.Eb Go.Proofs.Ytdginjpppgfdaaa.Ec Go.Proofs.Ytdginjpppgfdaaa.Ed Go.Proofs.Ytdginjpppgfdaaa.Ee Go.Proofs.Ytdginjpppgfdaaa.La
set_option linter.unusedVariables false
set_option linter.unusedSimpArgs false

/-- Rescale always answers two whole numbers. -/
theorem vRescale_form (t f s h : Int) : ∃ q e, vRescale t f s h = .tuple #[.int .i64 q, .int .i64 e] := by
  unfold vRescale
  split
  · exact vTicks_form _ _ _ _
  · exact ⟨_, _, rfl⟩
theorem five_cells {w : World} {g : Nat} {a b c d e : Value} {t : TypeId} (h : w.heap[g]? = some (.cells #[a, b, c, d, e] t (0, 0))) : w.cell? ⟨g, 0, none⟩ = some a ∧ w.cell? ⟨g, 1, none⟩ = some b ∧ w.cell? ⟨g, 2, none⟩ = some c ∧ w.cell? ⟨g, 3, none⟩ = some d ∧ w.cell? ⟨g, 4, none⟩ = some e :=
  ⟨(blk_cell h 0).trans rfl, (blk_cell h 1).trans rfl, (blk_cell h 2).trans rfl, (blk_cell h 3).trans rfl, (blk_cell h 4).trans rfl⟩
set_option maxHeartbeats 16000000 in
set_option maxRecDepth 100000 in
theorem scales_n (t f k h b : Int) (w : World) :
    Calls Try.prog 4 #[.agg #[.int .i64 t, .int .i64 f, .int .i64 k, .int .i64 h, .int .i64 b]] w (ValP w (.bool true)) := by
  have hu := Try.underlying23
  have hb1 : Below w.heap.size w (w.alloc (.cells #[.int .i64 t, .int .i64 f, .int .i64 k, .int .i64 h, .int .i64 b] 23)) := below_alloc (Below.refl _ w) _
  have hbk := blk_new w (.cells #[.int .i64 t, .int .i64 f, .int .i64 k, .int .i64 h, .int .i64 b] 23)
  have s1 := hb1.size
  by_cases hok : (1 ≤ f ∧ f ≤ 1000000) ∧ (1 ≤ k ∧ k ≤ 1000000) ∧ (0 ≤ h ∧ h ≤ 2) ∧ 0 ≤ b ∧ b ≤ 2
  · obtain ⟨⟨f0, f1⟩, ⟨k0, k1⟩, ⟨hh0, hh1⟩, bb0, bb1⟩ := hok
    have m0 : 1 ≤ f * k := by have := Int.mul_le_mul_of_nonneg_right f0 (show 0 ≤ k by omega); omega
    have m1 : f * k ≤ 1000000000000 := by
      have h1 := Int.mul_le_mul_of_nonneg_right f1 (show 0 ≤ k by omega)
      omega
    have hH : isHow h = true := by unfold isHow; simp; omega
    have hB : isHow b = true := by unfold isHow; simp; omega
    obtain ⟨n, e, hne⟩ := vRescale_form t f (f * k) h
    have hR1 := fun w => Rescale_n t f (f * k) h w
    rw [hne] at hR1
    by_cases he : e = 0
    · subst he
      have hR2 := fun w => Rescale_n n (f * k) f b w
      rw [scales t f k h b n f0 f1 k0 k1 hH hB hne] at hR2
      unfold two er at hR2
      have HR := Aside0.mk (And.intro hR1 hR2)
      clear hR1 hR2 hne hH hB
      go_enter Try.func4, Try.ntmps4
      go_wp2_with fail
      refine (HR.out.1 _).mono ?_
      rintro e w2 ⟨rfl, hb2⟩
      have hk2 := blk_below hbk hb2
      obtain ⟨c0, c1, c2, c3, c4⟩ := five_cells hk2
      have HB2 := Aside0.mk (hb1.trans (hb2.mono s1))
      clear hb2 hbk hb1 s1
      go_wp2_with fail
      refine (HR.out.2 _).mono ?_
      rintro e w3 ⟨rfl, hb3⟩
      obtain ⟨d0, d1, d2, d3, d4⟩ := five_cells (blk_below hk2 hb3)
      have HB3 := Aside0.mk (HB2.out.trans (hb3.mono HB2.out.size))
      clear hb3 hk2 c0 c1 c2 c3 c4
      go_wp2_with fail
      refine (awake_n _).mono ?_
      rintro e w4 ⟨rfl, hb4⟩
      go_wp2_with fail
      go_ret
      exact ⟨rfl, HB3.out.trans (hb4.mono HB3.out.size)⟩
    · have HR := Aside0.mk hR1
      clear hR1 hne hH hB
      have he2 : (e == 0) = false := by simpa using he
      go_enter Try.func4, Try.ntmps4
      go_wp2_with fail
      refine (HR.out _).mono ?_
      rintro e w2 ⟨rfl, hb2⟩
      have HB2 := Aside0.mk (hb1.trans (hb2.mono s1))
      clear hb2 hbk hb1 s1
      go_wp2_with fail
      refine (awake_n _).mono ?_
      rintro e w4 ⟨rfl, hb4⟩
      go_wp2_with fail
      go_ret
      exact ⟨rfl, HB2.out.trans (hb4.mono HB2.out.size)⟩
  · have hA := awake_n
    go_enter Try.func4, Try.ntmps4
    go_wp2_with fail
    all_goals first
      | (exfalso; omega)
      | (refine (awake_n _).mono ?_; rintro e w4 ⟨rfl, hb4⟩; go_wp2_with fail; go_ret; exact ⟨rfl, hb1.trans (hb4.mono s1)⟩)
theorem walk (t f k h b : Int) (w : World) (_ : (Lit.int .i64 t).wf = true) (_ : (Lit.int .i64 f).wf = true) (_ : (Lit.int .i64 k).wf = true) (_ : (Lit.int .i64 h).wf = true) (_ : (Lit.int .i64 b).wf = true) :
    Calls Try.prog 4 #[.agg #[.int .i64 t, .int .i64 f, .int .i64 k, .int .i64 h, .int .i64 b]] w (fun e w' => e = .returned (.bool true) ∧ Below w.heap.size w w') := scales_n t f k h b w
end Go.Proofs.Ytdginjpppgfdaaa.Sc

/-
  exact's valid and little; add and Add of little times; the law's awake.
-/
import Derived.Test.YtdginjpppgfdaaaEd
namespace Go.Proofs.Ytdginjpppgfdaaa.Ee
open Go.RowKit Go Go.Proofs.YtdginjpppgfdaaaW.PrintWords Go.Proofs.YtdginjpppgfdaaaW.PrintLast Go.Proofs.YtdginjpppgfdaaaW.PrintMore Go.Proofs.Ytdginjpppgfdaaa.Ml Go.Proofs.Ytdginjpppgfdaaa.Mn Go.Proofs.Ytdginjpppgfdaaa.Nd Go.Proofs.Ytdginjpppgfdaaa.P Go.Proofs.Ytdginjpppgfdaaa.Nc Go.Proofs.Ytdginjpppgfdaaa.Nb Go.Proofs.Ytdginjpppgfdaaa.Qa Go.Proofs.Ytdginjpppgfdaaa.Qb Go.Proofs.Ytdginjpppgfdaaa.Ea Go.Proofs.Ytdginjpppgfdaaa.Eb Go.Proofs.Ytdginjpppgfdaaa.Ec Go.Proofs.Ytdginjpppgfdaaa.Ed
set_option linter.unusedVariables false
set_option linter.unusedSimpArgs false

set_option maxHeartbeats 1000000 in
theorem valid2_n (g : Nat) (n1 d1 n2 d2 : Int) (w : World) (hp : Pair w g n1 d1 n2 d2) :
    Calls Try.prog 56 #[.slice (some ⟨g, 0, none⟩) 2 2] w (ValP w (.bool (valid n1 d1 && valid n2 d2))) := by
  go_enter Try.func56, Try.ntmps56
  go_wp2_with fail
  refine (has2_n 83 (fun n d => !valid n d) g n1 d1 n2 d2 w hp (fun _ _ => by go_simp) notValid_n).mono ?_
  rintro e w2 ⟨rfl, hb2⟩
  go_wp2_with fail
  go_ret
  exact ⟨ret_b (by cases valid n1 d1 <;> cases valid n2 d2 <;> rfl), hb2⟩
set_option maxHeartbeats 1000000 in
theorem little2_n (g : Nat) (n1 d1 n2 d2 : Int) (w : World) (hp : Pair w g n1 d1 n2 d2) :
    Calls Try.prog 84 #[.slice (some ⟨g, 0, none⟩) 2 2] w (ValP w (.bool (small n1 d1 && small n2 d2))) := by
  go_enter Try.func84, Try.ntmps84
  go_wp2_with fail
  refine (has2_n 112 (fun n d => !small n d) g n1 d1 n2 d2 w hp (fun _ _ => by go_simp) large_n).mono ?_
  rintro e w2 ⟨rfl, hb2⟩
  go_wp2_with fail
  go_ret
  exact ⟨ret_b (by cases small n1 d1 <;> cases small n2 d2 <;> rfl), hb2⟩
theorem mul_bd {a b : Int} (a0 : -1073741824 < a) (a1 : a < 1073741824) (b0 : 1 ≤ b) (b1 : b < 1073741824) : -1152921504606846976 < a * b ∧ a * b < 1152921504606846976 := by
  have h1 : a * b ≤ 1073741823 * b := Int.mul_le_mul_of_nonneg_right (by omega) (by omega)
  have h2 : -1073741823 * b ≤ a * b := Int.mul_le_mul_of_nonneg_right (by omega) (by omega)
  omega
def timeObj (n d : Int) : Obj := .cells #[.int .i64 n, .int .i64 d] 25 (0, 0)
/-- Two times boxed, a third one for the answer, and the row of the two. -/
structure Boxed (w W : World) (n1 d1 n2 d2 : Int) : Prop where
  a : W.heap[w.heap.size]? = some (timeObj n1 d1)
  b : W.heap[w.heap.size + 1]? = some (timeObj n2 d2)
  r : W.heap[w.heap.size + 1 + 1]? = some (timeObj 0 0)
  s : Pair W (w.heap.size + 1 + 1 + 1) n1 d1 n2 d2
  below : Below w.heap.size w W
theorem Boxed.start (w : World) (n1 d1 n2 d2 : Int) : Boxed w ((((w.alloc (timeObj n1 d1)).alloc (timeObj n2 d2)).alloc (timeObj 0 0)).alloc (.cells #[.int .i64 n1, .int .i64 d1, .int .i64 n2, .int .i64 d2] 25)) n1 d1 n2 d2 := by
  have e1 : (w.alloc (timeObj n1 d1)).heap.size = w.heap.size + 1 := by simp
  have e2 : ((w.alloc (timeObj n1 d1)).alloc (timeObj n2 d2)).heap.size = w.heap.size + 1 + 1 := by simp
  have e3 : (((w.alloc (timeObj n1 d1)).alloc (timeObj n2 d2)).alloc (timeObj 0 0)).heap.size = w.heap.size + 1 + 1 + 1 := by simp
  have k4 := blk_new (((w.alloc (timeObj n1 d1)).alloc (timeObj n2 d2)).alloc (timeObj 0 0)) (.cells #[.int .i64 n1, .int .i64 d1, .int .i64 n2, .int .i64 d2] 25)
  have k3 := blk_new ((w.alloc (timeObj n1 d1)).alloc (timeObj n2 d2)) (timeObj 0 0)
  have k2 := blk_new (w.alloc (timeObj n1 d1)) (timeObj n2 d2)
  have k1 := blk_new w (timeObj n1 d1)
  rw [e3] at k4
  rw [e2] at k3
  rw [e1] at k2
  refine ⟨blk_alloc (blk_alloc (blk_alloc k1 _) _) _, blk_alloc (blk_alloc k2 _) _, blk_alloc k3 _, k4, below_alloc (below_alloc (below_alloc (below_alloc (Below.refl _ w) _) _) _) _⟩
theorem Boxed.step {w W W2 : World} {n1 d1 n2 d2 : Int} (h : Boxed w W n1 d1 n2 d2) (hb : Below W.heap.size W W2) : Boxed w W2 n1 d1 n2 d2 :=
  ⟨blk_below h.a hb, blk_below h.b hb, blk_below h.r hb, blk_below (o := .cells _ _ _) h.s hb, h.below.trans (hb.mono h.below.size)⟩
theorem time_cells {w : World} {g : Nat} {n d : Int} (h : w.heap[g]? = some (timeObj n d)) : w.cell? ⟨g, 0, none⟩ = some (.int .i64 n) ∧ w.cell? ⟨g, 1, none⟩ = some (.int .i64 d) ∧ w.frozen? ⟨g, 0, none⟩ = false ∧ w.frozen? ⟨g, 1, none⟩ = false :=
  ⟨(blk_cell h 0).trans rfl, (blk_cell h 1).trans rfl, blk_frozen h 0, blk_frozen h 1⟩
set_option maxHeartbeats 4000000 in
set_option maxRecDepth 100000 in
theorem addS_n (n1 d1 n2 d2 : Int) (w : World) (h1 : small n1 d1 = true) (h2 : small n2 d2 = true) (p1 : 1 ≤ d1) (p2 : 1 ≤ d2) (N D : Int) (hN : N = lowN (n1 * d2 + n2 * d1) (d1 * d2)) (hD : D = lowD (n1 * d2 + n2 * d1) (d1 * d2)) (hv : valid N D = true) :
    Calls Try.prog 57 #[tm n1 d1, tm n2 d2] w (ValP w (two (tm N D) (er 0))) := by
  have hu := Try.underlying25
  have hB := Aside0.mk (Boxed.start w n1 d1 n2 d2)
  have hs1 : (n1 < 1073741824 ∧ -1073741824 < n1) ∧ d1 < 1073741824 := by unfold small at h1; simpa using h1
  have hs2 : (n2 < 1073741824 ∧ -1073741824 < n2) ∧ d2 < 1073741824 := by unfold small at h2; simpa using h2
  obtain ⟨x1, x2⟩ := mul_bd hs1.1.2 hs1.1.1 p2 hs2.2
  obtain ⟨y1, y2⟩ := mul_bd hs2.1.2 hs2.1.1 p1 hs1.2
  obtain ⟨z1, z2⟩ := mul_bd (a := d1) (by omega) hs1.2 p2 hs2.2
  have z3 : 1 ≤ d1 * d2 := by have := Int.mul_le_mul_of_nonneg_right p1 (show 0 ≤ d2 by omega); omega
  obtain ⟨k, hk⟩ := lowest_f (n1 * d2 + n2 * d1) (d1 * d2) (by omega) (by omega) z3 (by omega)
  rw [← hN, ← hD] at hk
  have HK := Aside0.mk hk
  clear hs1 hs2 hk hN hD
  unfold two tm er
  go_enter Try.func57, Try.ntmps57
  go_wp2_with fail
  generalize hW : World.alloc (World.alloc _ _) _ = W
  have HB := Aside0.mk (show Boxed w W n1 d1 n2 d2 by rw [← hW]; exact hB.out)
  clear hW hB
  refine (little2_n _ n1 d1 n2 d2 W HB.out.s).mono ?_
  rintro e w2 ⟨rfl, hb2⟩
  rw [h1, h2]
  have HB2 := Aside0.mk (HB.out.step hb2)
  clear hb2 HB
  obtain ⟨a0, a1, _, _⟩ := time_cells HB2.out.a
  obtain ⟨b0, b1, _, _⟩ := time_cells HB2.out.b
  go_wp2_with fail
  refine (exact_lowest.calls k (n1 * d2 + n2 * d1) (d1 * d2) N D _ HK.out).mono ?_
  rintro e w3 ⟨rfl, hb3⟩
  have HB3 := Aside0.mk (HB2.out.step hb3)
  clear hb3 HB2 a0 a1 b0 b1
  go_wp2_with fail
  have hq := blk_new w3 (timeObj N D)
  have hb4 : Below w3.heap.size w3 (w3.alloc (timeObj N D)) := below_alloc (Below.refl _ w3) _
  refine (Valid_n N D _).mono ?_
  rintro e w5 ⟨rfl, hb5⟩
  rw [hv]
  have HB5 := Aside0.mk ((HB3.out.step hb4).step hb5)
  have hq5 := blk_below hq hb5
  obtain ⟨q0, q1, q2, q3⟩ := time_cells hq5
  obtain ⟨r0, r1, r2, r3⟩ := time_cells HB5.out.r
  clear hb4 hb5 hq hq5 HB3
  go_wp2_with fail
  refine bodyPost_ret (results_ct rfl _ _ (w.heap.size + 1 + 1) 25 #[.int .i64 N, .int .i64 D] (0, 0) _ rfl (blk_two HB5.out.r) Try.underlying25 rfl (by kernel_rfl)) rfl ?_
  exact ⟨rfl, (HB5.out.below.setCell (by simp; omega) _).setCell (by simp; omega) _⟩
set_option maxHeartbeats 4000000 in
set_option maxRecDepth 100000 in
/-- Add of two valid times, by what add does. -/
theorem AddV_n (n1 d1 n2 d2 : Int) (w : World) (h1 : valid n1 d1 = true) (h2 : valid n2 d2 = true) (N D E : Int)
    (hA : ∀ w, Calls Try.prog 57 #[tm n1 d1, tm n2 d2] w (ValP w (two (tm N D) (er E)))) :
    Calls Try.prog 26 #[tm n1 d1, tm n2 d2] w (ValP w (two (tm N D) (er E))) := by
  have hu := Try.underlying25
  have hB := Aside0.mk (Boxed.start w n1 d1 n2 d2)
  have HA := Aside0.mk hA
  clear hA
  unfold two tm er
  go_enter Try.func26, Try.ntmps26
  go_wp2_with fail
  generalize hW : World.alloc (World.alloc _ _) _ = W
  have HB := Aside0.mk (show Boxed w W n1 d1 n2 d2 by rw [← hW]; exact hB.out)
  clear hW hB
  refine (valid2_n _ n1 d1 n2 d2 W HB.out.s).mono ?_
  rintro e w2 ⟨rfl, hb2⟩
  rw [h1, h2]
  have HB2 := Aside0.mk (HB.out.step hb2)
  clear hb2 HB
  obtain ⟨a0, a1, _, _⟩ := time_cells HB2.out.a
  obtain ⟨b0, b1, _, _⟩ := time_cells HB2.out.b
  go_wp2_with fail
  refine (HA.out w2).mono ?_
  rintro e w3 ⟨rfl, hb3⟩
  have HB3 := Aside0.mk (HB2.out.step hb3)
  obtain ⟨r0, r1, r2, r3⟩ := time_cells HB3.out.r
  clear hb3 HB2 a0 a1 b0 b1
  unfold two tm er
  go_wp2_with fail
  refine bodyPost_ret (results_ct rfl _ _ (w.heap.size + 1 + 1) 25 #[.int .i64 N, .int .i64 D] (0, 0) _ rfl (blk_two HB3.out.r) Try.underlying25 rfl (by kernel_rfl)) rfl ?_
  exact ⟨rfl, (HB3.out.below.setCell (by simp; omega) _).setCell (by simp; omega) _⟩
set_option maxHeartbeats 4000000 in
set_option maxRecDepth 100000 in
theorem awake_n (w : World) : Calls Try.prog 21 #[] w (ValP w (.bool true)) := by
  have hu := Try.underlying25
  have hA := fun w => AddV_n 1 3 1 6 w (by decide) (by decide) 1 2 0 (fun w => addS_n 1 3 1 6 w (by decide) (by decide) (by decide) (by decide) 1 2 (by decide) (by decide) (by decide))
  have hT := fun w => Ticks_n 1 3 1000 1 w
  rw [show vTicks 1 3 1000 1 = .tuple #[.int .i64 334, .int .i64 0] by kernel_rfl] at hT
  have hR := fun w => Rescale_n 1 3 2 2 w
  rw [show vRescale 1 3 2 2 = .tuple #[.int .i64 1, .int .i64 0] by kernel_rfl] at hR
  unfold two tm er at hA
  unfold tm at hT
  go_enter Try.func21, Try.ntmps21
  go_wp2_with fail
  refine (hA _).mono ?_
  rintro e w2 ⟨rfl, hb2⟩
  go_wp2_with fail
  refine (hT _).mono ?_
  rintro e w3 ⟨rfl, hb3⟩
  go_wp2_with fail
  refine (hR _).mono ?_
  rintro e w4 ⟨rfl, hb4⟩
  have hq := blk_below (blk_below (blk_new w2 (timeObj 1 2)) hb3) hb4
  obtain ⟨q0, q1, q2, q3⟩ := time_cells hq
  have h1 := below_alloc hb2 (timeObj 1 2)
  have HB := Aside0.mk ((h1.trans (hb3.mono h1.size)).trans (hb4.mono (h1.trans (hb3.mono h1.size)).size))
  clear hq hb2 hb3 hb4 h1 hA hT hR
  go_wp2_with fail
  go_ret
  exact ⟨rfl, HB.out⟩
end Go.Proofs.Ytdginjpppgfdaaa.Ee

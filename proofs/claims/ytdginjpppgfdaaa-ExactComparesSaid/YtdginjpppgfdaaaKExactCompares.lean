/-
  ExactCompares: for every input the law returns true. ExactCompares: how any two times stand to each other is as the reference says. The reference's Cmp, as a value of whole numbers. Words for the walks of the reference: Valid, signs, two times boxed. Plain laws of the comparison of fractions.
-/
import Derived.Test.YtdginjpppgfdaaaKd
import Derived.Test.YtdginjpppgfdaaaKf
import Derived.Test.YtdginjpppgfdaaaRows
import Derived.Test.YtdginjpppgfdaaaKc
import Derived.WalkKit
import Derived.ProofKit
import Derived.OpenShut
import Derived.ChangeOld
import Derived.Below
import Derived.SizedLaws
import Derived.Carry
namespace Go.Proofs.Ytdginjpppgfdaaa.Lc
open Go.RowKit Go Go.Proofs.Ytdginjpppgfdaaa.Nd Go.Proofs.Ytdginjpppgfdaaa.Ea Go.Proofs.Ytdginjpppgfdaaa.Eb Go.Proofs.Ytdginjpppgfdaaa.Ee Go.Proofs.Ytdginjpppgfdaaa.Ra Go.Proofs.Ytdginjpppgfdaaa.Rb Go.Proofs.Ytdginjpppgfdaaa.Rc Go.Proofs.Ytdginjpppgfdaaa.Rd Go.Proofs.Ytdginjpppgfdaaa.Lb
set_option linter.unusedVariables false
set_option linter.unusedSimpArgs false

theorem cmpI_3 (x y : Int) : cmpI x y = -1 ∧ x < y ∨ cmpI x y = 0 ∧ x = y ∨ cmpI x y = 1 ∧ y < x := by
  unfold cmpI
  rcases Int.lt_trichotomy x y with h | h | h
  · exact .inl ⟨by rw [if_pos h], h⟩
  · exact .inr (.inl ⟨by rw [if_neg (by omega), if_neg (by omega)], h⟩)
  · exact .inr (.inr ⟨by rw [if_neg (by omega), if_pos h], h⟩)
theorem cmpI_of {x y c : Int} : cmpI x y = c ↔ (c = -1 ∧ x < y ∨ c = 0 ∧ x = y ∨ c = 1 ∧ y < x) := by
  rcases cmpI_3 x y with ⟨h, k⟩ | ⟨h, k⟩ | ⟨h, k⟩ <;> rw [h] <;> omega
theorem cmpI_swap (x y : Int) : cmpI y x = -cmpI x y := by
  rw [cmpI_of]
  rcases cmpI_3 x y with ⟨h, k⟩ | ⟨h, k⟩ | ⟨h, k⟩ <;> rw [h] <;> omega
theorem cmpI_le {x y : Int} : cmpI x y ≤ 0 ↔ x ≤ y := by rcases cmpI_3 x y with ⟨h, k⟩ | ⟨h, k⟩ | ⟨h, k⟩ <;> rw [h] <;> omega
theorem cmpI_lt {x y : Int} : cmpI x y < 0 ↔ x < y := by rcases cmpI_3 x y with ⟨h, k⟩ | ⟨h, k⟩ | ⟨h, k⟩ <;> rw [h] <;> omega
theorem cmpI_eq {x y : Int} : cmpI x y = 0 ↔ x = y := by rcases cmpI_3 x y with ⟨h, k⟩ | ⟨h, k⟩ | ⟨h, k⟩ <;> rw [h] <;> omega
theorem cmpI_pos {x y : Int} : 0 < cmpI x y ↔ y < x := by rcases cmpI_3 x y with ⟨h, k⟩ | ⟨h, k⟩ | ⟨h, k⟩ <;> rw [h] <;> omega
theorem cmpI_scale {x y u v M K : Int} (hM : 0 < M) (hK : 0 < K) (h : (x - y) * M = (u - v) * K) : cmpI x y = cmpI u v := by
  rw [cmpI_of]
  rcases cmpI_3 u v with ⟨e, k⟩ | ⟨e, k⟩ | ⟨e, k⟩ <;> rw [e]
  · left
    refine ⟨rfl, Int.lt_of_sub_neg (Int.lt_of_not_ge fun h0 => ?_)⟩
    have h1 := Int.mul_nonneg h0 (Int.le_of_lt hM)
    have h2 : (u - v) * K < 0 := Int.mul_neg_of_neg_of_pos (by omega) hK
    omega
  · right
    left
    refine ⟨rfl, ?_⟩
    subst k
    rw [Int.sub_self, Int.zero_mul] at h
    rcases Int.mul_eq_zero.1 h with h | h <;> omega
  · right
    right
    refine ⟨rfl, Int.lt_of_sub_pos (Int.lt_of_not_ge fun h0 => ?_)⟩
    have h1 : (x - y) * M ≤ 0 := Int.mul_nonpos_of_nonpos_of_nonneg h0 (Int.le_of_lt hM)
    have h2 : 0 < (u - v) * K := Int.mul_pos (by omega) hK
    omega
theorem vCmp_val {na da nb db : Int} (ha : valid na da = true) (hb : valid nb db = true) : vCmp na da nb db = .tuple #[.int .i64 (cmpI (na * db) (nb * da)), .int .i64 0] := by unfold vCmp; rw [ha, hb]; rfl
theorem vCmp_bad {na da nb db : Int} (h : (valid na da && valid nb db) = false) : vCmp na da nb db = .tuple #[.int .i64 0, .int .i64 4] := by unfold vCmp; rw [h]; rfl
theorem cmp_trans {na da nb db nc dc : Int} (ha : 1 ≤ da) (hb : 1 ≤ db) (hc : 1 ≤ dc) : ¬ (cmpI (na * db) (nb * da) ≤ 0 ∧ cmpI (nb * dc) (nc * db) ≤ 0 ∧ (0 < cmpI (na * dc) (nc * da) ∨ cmpI (na * dc) (nc * da) = 0 ∧ (cmpI (na * db) (nb * da) < 0 ∨ cmpI (nb * dc) (nc * db) < 0))) := by
  rw [cmpI_le, cmpI_le, cmpI_pos, cmpI_eq, cmpI_lt, cmpI_lt]
  have e3 : (na * dc - nc * da) * db = (na * db - nb * da) * dc + (nb * dc - nc * db) * da := by grind
  generalize hu : na * db - nb * da = u at *
  generalize hv : nb * dc - nc * db = v at *
  generalize ht : na * dc - nc * da = t at *
  rintro ⟨h1, h2, h3⟩
  have u0 : u * dc ≤ 0 := Int.mul_nonpos_of_nonpos_of_nonneg (by omega) (by omega)
  have v0 : v * da ≤ 0 := Int.mul_nonpos_of_nonpos_of_nonneg (by omega) (by omega)
  rcases h3 with h3 | ⟨h3, h4⟩
  · have : 0 < t * db := Int.mul_pos (by omega) (by omega)
    omega
  · have e0 : t = 0 := by omega
    rw [e0, Int.zero_mul] at e3
    rcases h4 with h4 | h4
    · have : u * dc < 0 := Int.mul_neg_of_neg_of_pos (by omega) (by omega)
      omega
    · have : v * da < 0 := Int.mul_neg_of_neg_of_pos (by omega) (by omega)
      omega
theorem cmp_sums {na da nb db nc dc N D N' D' : Int} (h1 : rAdd na da nc dc = (N, D, 0)) (h2 : rAdd nb db nc dc = (N', D', 0)) : vCmp N D N' D' = .tuple #[.int .i64 (cmpI (na * db) (nb * da)), .int .i64 0] := by
  obtain ⟨va, vc, v, e, _⟩ := rAdd_ok h1
  obtain ⟨vb, _, v', e', _⟩ := rAdd_ok h2
  have qa := valid_bd va
  have qb := valid_bd vb
  have qc := valid_bd vc
  have q := valid_bd v
  have q' := valid_bd v'
  rw [vCmp_val v v', cmpI_scale (u := na * db) (v := nb * da) (M := da * dc * (db * dc)) (K := D * D' * (dc * dc)) (Int.mul_pos (Int.mul_pos (by omega) (by omega)) (Int.mul_pos (by omega) (by omega))) (Int.mul_pos (Int.mul_pos (by omega) (by omega)) (Int.mul_pos (by omega) (by omega)))]
  clear h1 h2 va vb vc v v'
  grind
/-- Two ints, as a call of Cmp or Ticks answers them. -/
def PvP (w : World) (N E : Int) (e : Ending) (w' : World) : Prop := e = .returned (.tuple #[.int .i64 N, .int .i64 E]) ∧ Below w.heap.size w w'
theorem PvP.of {w : World} {v : Value} {N E : Int} {e : Ending} {w' : World} (h : ValP w v e w') (hv : v = .tuple #[.int .i64 N, .int .i64 E]) : PvP w N E e w' := by
  subst hv
  exact h
theorem CmpT_n {n1 d1 n2 d2 N E : Int} (h : vCmp n1 d1 n2 d2 = .tuple #[.int .i64 N, .int .i64 E]) (w : World) : Calls Try.prog 37 #[.agg #[.int .i64 n1, .int .i64 d1], .agg #[.int .i64 n2, .int .i64 d2]] w (PvP w N E) := (Cmp_n n1 d1 n2 d2 w).mono fun e w' hp => PvP.of hp h
end Go.Proofs.Ytdginjpppgfdaaa.Lc

namespace Go.Proofs.Ytdginjpppgfdaaa.Fx
open Go.RowKit Go Go.Proofs.YtdginjpppgfdaaaW.PrintWords Go.Proofs.YtdginjpppgfdaaaW.PrintLast Go.Proofs.YtdginjpppgfdaaaW.PrintMore Go.Proofs.Ytdginjpppgfdaaa.Ml Go.Proofs.Ytdginjpppgfdaaa.Mn Go.Proofs.Ytdginjpppgfdaaa.Nd Go.Proofs.Ytdginjpppgfdaaa.P Go.Proofs.Ytdginjpppgfdaaa.Nc Go.Proofs.Ytdginjpppgfdaaa.Nb Go.Proofs.Ytdginjpppgfdaaa.Ea Go.Proofs.Ytdginjpppgfdaaa.Eb Go.Proofs.Ytdginjpppgfdaaa.Ee Go.Proofs.Ytdginjpppgfdaaa.Fa Go.Proofs.Ytdginjpppgfdaaa.Fb
set_option linter.unusedVariables false
set_option linter.unusedSimpArgs false

set_option maxHeartbeats 2000000 in
set_option maxRecDepth 100000 in
theorem rValid_n (n d : Int) (w : World) : Calls Try.prog 25 #[tm n d] w (fun e w' => e = .returned (.bool (valid n d)) ∧ Below w.heap.size w w') := by
  have hu := Try.underlying25
  unfold tm
  go_enter Try.func25, Try.ntmps25
  go_wp2
  all_goals
    go_ret
    refine ⟨ret_b ?_, below_alloc (Below.refl _ _) _⟩
    unfold valid
    first | (simp_all; done) | (simp_all; omega) | grind
theorem sg_abs' (x : Int) : sg (decide (x < 0)) (x.natAbs : Int) = x := by
  by_cases h : x < 0
  · rw [decide_eq_true h]; simp [sg]; omega
  · rw [decide_eq_false h]; simp [sg]; omega
theorem sg_mul' (b : Bool) (x y : Int) : sg b (x * y) = sg b x * y := by cases b <;> simp [sg, Int.neg_mul]
theorem sg_not (b : Bool) (x : Int) : sg (!b) x = -sg b x := by cases b <;> simp [sg]
/-- Two times boxed, and room for the answer. -/
structure Bt (w W : World) (n1 d1 n2 d2 : Int) : Prop where
  a : W.heap[w.heap.size]? = some (timeObj n1 d1)
  b : W.heap[w.heap.size + 1]? = some (timeObj n2 d2)
  r : W.heap[w.heap.size + 1 + 1]? = some (timeObj 0 0)
  below : Below w.heap.size w W
theorem Bt.start (w : World) (n1 d1 n2 d2 : Int) : Bt w (((w.alloc (timeObj n1 d1)).alloc (timeObj n2 d2)).alloc (timeObj 0 0)) n1 d1 n2 d2 := by
  have e1 : (w.alloc (timeObj n1 d1)).heap.size = w.heap.size + 1 := by simp
  have e2 : ((w.alloc (timeObj n1 d1)).alloc (timeObj n2 d2)).heap.size = w.heap.size + 1 + 1 := by simp
  have k4 := blk_new ((w.alloc (timeObj n1 d1)).alloc (timeObj n2 d2)) (timeObj 0 0)
  have k2 := blk_new (w.alloc (timeObj n1 d1)) (timeObj n2 d2)
  have k1 := blk_new w (timeObj n1 d1)
  rw [e2] at k4
  rw [e1] at k2
  exact ⟨blk_alloc (blk_alloc k1 _) _, blk_alloc k2 _, k4, below_alloc (below_alloc (below_alloc (Below.refl _ w) _) _) _⟩
theorem Bt.step {w W W2 : World} {n1 d1 n2 d2 : Int} (h : Bt w W n1 d1 n2 d2) (hb : Below W.heap.size W W2) : Bt w W2 n1 d1 n2 d2 :=
  ⟨blk_below h.a hb, blk_below h.b hb, blk_below h.r hb, h.below.trans (hb.mono h.below.size)⟩
theorem Bt.cells {w W : World} {n1 d1 n2 d2 : Int} (h : Bt w W n1 d1 n2 d2) : W.cell? ⟨w.heap.size, 0, none⟩ = some (.int .i64 n1) ∧ W.cell? ⟨w.heap.size, 1, none⟩ = some (.int .i64 d1) ∧ W.cell? ⟨w.heap.size + 1, 0, none⟩ = some (.int .i64 n2) ∧ W.cell? ⟨w.heap.size + 1, 1, none⟩ = some (.int .i64 d2) := by
  obtain ⟨a0, a1, _, _⟩ := time_cells h.a
  obtain ⟨b0, b1, _, _⟩ := time_cells h.b
  exact ⟨a0, a1, b0, b1⟩
theorem Bt.top {w W : World} {n1 d1 n2 d2 : Int} (h : Bt w W n1 d1 n2 d2) : w.heap.size + 1 + 1 < W.heap.size := lt_of_some h.r
theorem D4.of {w : World} {a1 a2 b1 b2 : Value} {a da b db : Int} {n m : Nat} (h1 : Dec w a1 a n) (h2 : Dec w a2 da n) (h3 : Dec w b1 b m) (h4 : Dec w b2 db m) : D4 w a1 a2 b1 b2 a da b db n m := ⟨h1, h2, h3, h4⟩
end Go.Proofs.Ytdginjpppgfdaaa.Fx

namespace Go.Proofs.Ytdginjpppgfdaaa.Fg
open Go.RowKit Go Go.Proofs.YtdginjpppgfdaaaW.PrintWords Go.Proofs.YtdginjpppgfdaaaW.PrintLast Go.Proofs.YtdginjpppgfdaaaW.PrintMore Go.Proofs.Ytdginjpppgfdaaa.Ml Go.Proofs.Ytdginjpppgfdaaa.Mn Go.Proofs.Ytdginjpppgfdaaa.Nd Go.Proofs.Ytdginjpppgfdaaa.P Go.Proofs.Ytdginjpppgfdaaa.Nc Go.Proofs.Ytdginjpppgfdaaa.Nb Go.Proofs.Ytdginjpppgfdaaa.Ea Go.Proofs.Ytdginjpppgfdaaa.Eb Go.Proofs.Ytdginjpppgfdaaa.Ee Go.Proofs.Ytdginjpppgfdaaa.Rc Go.Proofs.Ytdginjpppgfdaaa.Fa Go.Proofs.Ytdginjpppgfdaaa.Fb Go.Proofs.Ytdginjpppgfdaaa.Fx
set_option linter.unusedVariables false
set_option linter.unusedSimpArgs false

theorem lessT_n (n1 d1 n2 d2 : Int) (A1 A2 A3 A4 : Option Addr) (k1 c1 k2 c2 k3 c3 k4 c4 : Nat) (w : World) (h : D4 w (.slice A1 k1 c1) (.slice A2 k2 c2) (.slice A3 k3 c3) (.slice A4 k4 c4) (n1.natAbs : Int) d1 (n2.natAbs : Int) d2 3 3) :
    Calls Try.prog 66 #[.agg #[.bool (decide (n1 < 0)), .slice A1 k1 c1, .slice A2 k2 c2], .agg #[.bool (decide (n2 < 0)), .slice A3 k3 c3, .slice A4 k4 c4]] w (ValP w (.bool (decide (n1 * d2 < n2 * d1)))) := by
  have := lessR_n (decide (n1 < 0)) (decide (n2 < 0)) A1 A2 A3 A4 k1 c1 k2 c2 k3 c3 k4 c4 (n1.natAbs : Int) d1 (n2.natAbs : Int) d2 3 3 w h (by decide)
  rwa [sg_mul', sg_mul', sg_abs', sg_abs'] at this
theorem _root_.Go.Proofs.Ytdginjpppgfdaaa.Fb.D4.swap {w : World} {a1 a2 b1 b2 : Value} {a da b db : Int} {n m : Nat} (h : D4 w a1 a2 b1 b2 a da b db n m) : D4 w b1 b2 a1 a2 b db a da m n := ⟨h.b, h.db, h.a, h.da⟩
/-- Two times boxed. -/
structure Bu (w W : World) (n1 d1 n2 d2 : Int) : Prop where
  a : W.heap[w.heap.size]? = some (timeObj n1 d1)
  b : W.heap[w.heap.size + 1]? = some (timeObj n2 d2)
  below : Below w.heap.size w W
theorem Bu.start (w : World) (n1 d1 n2 d2 : Int) : Bu w ((w.alloc (timeObj n1 d1)).alloc (timeObj n2 d2)) n1 d1 n2 d2 := by
  have e1 : (w.alloc (timeObj n1 d1)).heap.size = w.heap.size + 1 := by simp
  have k2 := blk_new (w.alloc (timeObj n1 d1)) (timeObj n2 d2)
  have k1 := blk_new w (timeObj n1 d1)
  rw [e1] at k2
  exact ⟨blk_alloc k1 _, k2, below_alloc (below_alloc (Below.refl _ w) _) _⟩
theorem Bu.step {w W W2 : World} {n1 d1 n2 d2 : Int} (h : Bu w W n1 d1 n2 d2) (hb : Below W.heap.size W W2) : Bu w W2 n1 d1 n2 d2 :=
  ⟨blk_below h.a hb, blk_below h.b hb, h.below.trans (hb.mono h.below.size)⟩
theorem Bu.cells {w W : World} {n1 d1 n2 d2 : Int} (h : Bu w W n1 d1 n2 d2) : W.cell? ⟨w.heap.size, 0, none⟩ = some (.int .i64 n1) ∧ W.cell? ⟨w.heap.size, 1, none⟩ = some (.int .i64 d1) ∧ W.cell? ⟨w.heap.size + 1, 0, none⟩ = some (.int .i64 n2) ∧ W.cell? ⟨w.heap.size + 1, 1, none⟩ = some (.int .i64 d2) := by
  obtain ⟨a0, a1, _, _⟩ := time_cells h.a
  obtain ⟨b0, b1, _, _⟩ := time_cells h.b
  exact ⟨a0, a1, b0, b1⟩
/-- What the two filled blocks leave. -/
theorem fill_two {w : World} {ga gb : Nat} (h1 : w.heap[ga]? = some (ratObj false nil0 nil0)) (h2 : w.heap[gb]? = some (ratObj false nil0 nil0)) (hne : ga ≠ gb) (na nb : Bool) (a1 a2 b1 b2 : Value) :
    (fill3 (fill3 w ga na a1 a2) gb nb b1 b2).heap[ga]? = some (ratObj na a1 a2) ∧ (fill3 (fill3 w ga na a1 a2) gb nb b1 b2).heap[gb]? = some (ratObj nb b1 b2) := by
  have k1 : (fill3 w ga na a1 a2).heap[ga]? = some (ratObj na a1 a2) := blk_three h1
  have k2 : (fill3 w ga na a1 a2).heap[gb]? = some (ratObj false nil0 nil0) := (fill3_heap w ga na a1 a2 gb (Ne.symm hne)).trans h2
  exact ⟨(fill3_heap _ gb nb b1 b2 ga hne).trans k1, blk_three k2⟩
set_option maxHeartbeats 16000000 in
set_option maxRecDepth 100000 in
theorem rCmp_n (n1 d1 n2 d2 : Int) (w : World) :
    Calls Try.prog 38 #[tm n1 d1, tm n2 d2] w (ValP w (vCmp n1 d1 n2 d2)) := by
  have hu := Try.underlying25
  have hu2 := Try.underlying60
  have hB := Aside0.mk (Bu.start w n1 d1 n2 d2)
  unfold tm
  cases hv1 : valid n1 d1 with
  | false =>
    rw [show vCmp n1 d1 n2 d2 = .tuple #[.int .i64 0, .int .i64 4] by unfold vCmp; rw [hv1]; rfl]
    go_enter Try.func38, Try.ntmps38
    go_wp2_with fail
    generalize hW : World.alloc (World.alloc _ _) _ = W
    have HB := Aside0.mk (show Bu w W n1 d1 n2 d2 by rw [← hW]; exact hB.out)
    clear hW hB
    refine (rValid_n n1 d1 W).mono ?_
    rintro e w2 ⟨rfl, hb2⟩
    rw [hv1]
    have HB2 := Aside0.mk (HB.out.step hb2)
    clear hb2 HB
    go_wp2_with fail
    go_ret2
    exact ⟨rfl, HB2.out.below⟩
  | true =>
    cases hv2 : valid n2 d2 with
    | false =>
      rw [show vCmp n1 d1 n2 d2 = .tuple #[.int .i64 0, .int .i64 4] by unfold vCmp; rw [hv1, hv2]; rfl]
      go_enter Try.func38, Try.ntmps38
      go_wp2_with fail
      generalize hW : World.alloc (World.alloc _ _) _ = W
      have HB := Aside0.mk (show Bu w W n1 d1 n2 d2 by rw [← hW]; exact hB.out)
      clear hW hB
      refine (rValid_n n1 d1 W).mono ?_
      rintro e w2 ⟨rfl, hb2⟩
      rw [hv1]
      have HB2 := Aside0.mk (HB.out.step hb2)
      clear hb2 HB
      obtain ⟨a0, a1, b0, b1⟩ := HB2.out.cells
      go_wp2_with fail
      refine (rValid_n n2 d2 w2).mono ?_
      rintro e w3 ⟨rfl, hb3⟩
      rw [hv2]
      have HB3 := Aside0.mk (HB2.out.step hb3)
      clear hb3 HB2 a0 a1 b0 b1
      go_wp2_with fail
      go_ret2
      exact ⟨rfl, HB3.out.below⟩
    | true =>
      have q1 := valid_bd hv1
      have q2 := valid_bd hv2
      have hV : vCmp n1 d1 n2 d2 = .tuple #[.int .i64 (cmpI (n1 * d2) (n2 * d1)), .int .i64 0] := by unfold vCmp; rw [hv1, hv2]; rfl
      rw [hV]
      clear hV
      go_enter Try.func38, Try.ntmps38
      go_wp2_with fail
      generalize hW : World.alloc (World.alloc _ _) _ = W
      have HB := Aside0.mk (show Bu w W n1 d1 n2 d2 by rw [← hW]; exact hB.out)
      clear hW hB
      refine (rValid_n n1 d1 W).mono ?_
      rintro e w2 ⟨rfl, hb2⟩
      rw [hv1]
      have HB2 := Aside0.mk (HB.out.step hb2)
      clear hb2 HB
      obtain ⟨a0, a1, b0, b1⟩ := HB2.out.cells
      go_wp2_with fail
      refine (rValid_n n2 d2 w2).mono ?_
      rintro e w3 ⟨rfl, hb3⟩
      rw [hv2]
      have HB3 := Aside0.mk (HB2.out.step hb3)
      clear hb3 HB2 a0 a1 b0 b1
      obtain ⟨a0, a1, b0, b1⟩ := HB3.out.cells
      go_wp2_with fail
      refine start_ (n := 8) (S := fun w' => w'.cell? ⟨w.heap.size, 0, none⟩ = some (.int .i64 n1) ∧ w'.cell? ⟨w.heap.size, 1, none⟩ = some (.int .i64 d1) ∧ w'.cell? ⟨w.heap.size + 1, 0, none⟩ = some (.int .i64 n2) ∧ w'.cell? ⟨w.heap.size + 1, 1, none⟩ = some (.int .i64 d2)) (ds := [6, 7]) (bs 8 0) (by kernel_rfl) rfl rfl ⟨a0, a1, b0, b1⟩ (fun hHeld => ?_)
      refine take_ (i := 0) (N := some 16) (v := ?_) (a' := ?_) (bs 8 1) rfl rfl (by kernel_rfl) (fun _ _ _ h => h) (Or.inl ⟨by rfl, ?_⟩) hHeld ?_ ?_; rotate_left; (· rintro w' ⟨s0, s1, s2, s3⟩; go_simp; first | done | with_reducible rfl); rotate_left; (· simp only [Act.put, List.setIfInBounds_toArray, List.set_cons_zero, List.set_cons_succ, i64_w, i32_w]; rfl)
      refine take_ (i := 2) (N := some 18) (v := ?_) (a' := ?_) (bs 8 5) rfl rfl (by kernel_rfl) (fun _ _ _ h => h) (Or.inl ⟨by rfl, ?_⟩) hHeld ?_ ?_; rotate_left; (· rintro w' ⟨s0, s1, s2, s3⟩; go_simp; first | done | with_reducible rfl); rotate_left; (· simp only [Act.put, List.setIfInBounds_toArray, List.set_cons_zero, List.set_cons_succ, i64_w, i32_w]; rfl)
      refine join_ (σ := Option Addr × Nat × Nat × Option Addr × Nat × Nat × Option Addr × Nat × Nat × Option Addr × Nat × Nat × Nat × Nat) 2 (bs 8 63) (fun ⟨A4, k4, c4, A5, k5, c5, A6, k6, c6, A7, k7, c7, g4, g5⟩ => [(17, .agg #[.bool (decide (n1 < 0)), .slice A4 k4 c4, .slice A5 k5 c5]), (19, .agg #[.bool (decide (n2 < 0)), .slice A6 k6 c6, .slice A7 k7 c7]), (6, .pointer (some ⟨g4, 0, none⟩)), (7, .pointer (some ⟨g5, 0, none⟩))]) (fun ⟨A4, k4, c4, A5, k5, c5, A6, k6, c6, A7, k7, c7, g4, g5⟩ w' => Below w3.heap.size w3 w' ∧ (Dec w' (.slice A4 k4 c4) (n1.natAbs : Int) 3 ∧ Dec w' (.slice A5 k5 c5) d1 3) ∧ (Dec w' (.slice A6 k6 c6) (n2.natAbs : Int) 3 ∧ Dec w' (.slice A7 k7 c7) d2 3) ∧ (w3.heap.size ≤ g4 ∧ w'.heap[g4]? = some (.cells #[.bool false, .slice none 0 0, .slice none 0 0] 60)) ∧ (w3.heap.size ≤ g5 ∧ w'.heap[g5]? = some (.cells #[.bool false, .slice none 0 0, .slice none 0 0] 60)) ∧ (g4 ≠ g5)) ?_ (fun hq_1_3_4_5 => ?_)
      rotate_left
      ·
        refine join_ (σ := Option Addr × Nat × Nat × Option Addr × Nat × Nat × Option Addr × Nat × Nat × Option Addr × Nat × Nat × Nat × Nat) 3 (bs 8 55) (fun ⟨A4, k4, c4, A5, k5, c5, _, _, _, _, _, _, g4, g5⟩ => [(17, .agg #[.bool (decide (n1 < 0)), .slice A4 k4 c4, .slice A5 k5 c5]), (6, .pointer (some ⟨g4, 0, none⟩)), (7, .pointer (some ⟨g5, 0, none⟩))]) (fun ⟨A4, k4, c4, A5, k5, c5, _, _, _, _, _, _, g4, g5⟩ w' => Below w3.heap.size w3 w' ∧ (Dec w' (.slice A4 k4 c4) (n1.natAbs : Int) 3 ∧ Dec w' (.slice A5 k5 c5) d1 3) ∧ (w3.heap.size ≤ g4 ∧ w'.heap[g4]? = some (.cells #[.bool false, .slice none 0 0, .slice none 0 0] 60)) ∧ (w3.heap.size ≤ g5 ∧ w'.heap[g5]? = some (.cells #[.bool false, .slice none 0 0, .slice none 0 0] 60)) ∧ (g4 ≠ g5)) ?_ (fun hq_1_4_5 => ?_)
        · rintro ⟨A4, k4, c4, A5, k5, c5, A6, k6, c6, A7, k7, c7, g4, g5⟩ w' ⟨hB, f1, f4, f5, ne4_5⟩
          refine norm_ (a' := ?_) ?_ ?_; rotate_left; (· simp only [putAll, Act.put, List.setIfInBounds_toArray, List.set_cons_zero, List.set_cons_succ, i64_w, i32_w]; rfl)
          refine one_ (i := 3) (N := some 19) (bs 8 63) rfl rfl (by kernel_rfl) (by decide) (fun K hK => ?_)
          ·
            refine goes_ Try.func52 (by kernel_rfl) rfl #[.agg #[.int .i64 n2, .int .i64 d2]] (by rfl) rfl rfl (by simp only [List.map_toArray, List.map_cons, List.map_nil]; rfl) ?_
            with_reducible refine (ratOf_n n2 d2 w' (by omega) (by omega) (by omega) (by omega)).mono ?_
            rintro e w9 ⟨A6, k6, c6, A7, k7, c7, rfl, n3a, n3b, hb9⟩
            refine ⟨_, rfl, ?_⟩
            have hB9 := hB.trans (hb9.mono hB.size)
            refine hK.out _ _ ⟨pw_cell_below hB9 a0, pw_cell_below hB9 a1, pw_cell_below hB9 b0, pw_cell_below hB9 b1⟩ (fun hHeld => ?_)
            clear hK K
            refine norm_ ?_ (hq_1_3_4_5 ⟨A4, k4, c4, A5, k5, c5, A6, k6, c6, A7, k7, c7, g4, g5⟩ _ ⟨hB9, ⟨f1.1.below hb9, f1.2.below hb9⟩, ⟨n3a, n3b⟩, ⟨f4.1, blk_below f4.2 hb9⟩, ⟨f5.1, blk_below f5.2 hb9⟩, ne4_5⟩); (· simp only [putAll, Act.put, List.setIfInBounds_toArray, List.set_cons_zero, List.set_cons_succ, i64_w, i32_w])
        refine join_ (σ := Option Addr × Nat × Nat × Option Addr × Nat × Nat × Option Addr × Nat × Nat × Option Addr × Nat × Nat × Nat × Nat) 3 (bs 8 47) (fun ⟨A4, k4, c4, A5, k5, c5, A6, k6, c6, A7, k7, c7, _, g5⟩ => [(17, .agg #[.bool (decide (n1 < 0)), .slice A4 k4 c4, .slice A5 k5 c5]), (19, .agg #[.bool (decide (n2 < 0)), .slice A6 k6 c6, .slice A7 k7 c7]), (7, .pointer (some ⟨g5, 0, none⟩))]) (fun ⟨A4, k4, c4, A5, k5, c5, A6, k6, c6, A7, k7, c7, _, g5⟩ w' => Below w3.heap.size w3 w' ∧ (Dec w' (.slice A4 k4 c4) (n1.natAbs : Int) 3 ∧ Dec w' (.slice A5 k5 c5) d1 3) ∧ (Dec w' (.slice A6 k6 c6) (n2.natAbs : Int) 3 ∧ Dec w' (.slice A7 k7 c7) d2 3) ∧ (w3.heap.size ≤ g5 ∧ w'.heap[g5]? = some (.cells #[.bool false, .slice none 0 0, .slice none 0 0] 60))) ?_ (fun hq_1_3_5 => ?_)
        · rintro ⟨A4, k4, c4, A5, k5, c5, A6, k6, c6, A7, k7, c7, g4, g5⟩ w' ⟨hB, f1, f3, f5⟩
          refine norm_ (a' := ?_) ?_ ?_; rotate_left; (· simp only [putAll, Act.put, List.setIfInBounds_toArray, List.set_cons_zero, List.set_cons_succ, i64_w, i32_w]; rfl)
          refine one_ (i := 4) (N := some 6) (bs 8 63) rfl rfl (by kernel_rfl) (by decide) (fun K hK => ?_)
          ·
            refine value_ (v := .pointer (some ⟨w'.heap.size, 0, none⟩)) (w1 := w'.alloc (.cells #[.bool false, .slice none 0 0, .slice none 0 0] 60)) (by rfl) rfl ?_ ?_
            · go_simp
            have hb9 : Below w'.heap.size w' (w'.alloc (.cells #[.bool false, .slice none 0 0, .slice none 0 0] 60)) := below_alloc (Below.refl _ _) _
            have n4 := blk_new w' (.cells #[.bool false, .slice none 0 0, .slice none 0 0] 60)
            have hB9 := hB.trans (hb9.mono hB.size)
            refine hK.out _ _ ⟨pw_cell_below hB9 a0, pw_cell_below hB9 a1, pw_cell_below hB9 b0, pw_cell_below hB9 b1⟩ (fun hHeld => ?_)
            clear hK K
            refine norm_ ?_ (hq_1_3_4_5 ⟨A4, k4, c4, A5, k5, c5, A6, k6, c6, A7, k7, c7, w'.heap.size, g5⟩ _ ⟨hB9, ⟨f1.1.below hb9, f1.2.below hb9⟩, ⟨f3.1.below hb9, f3.2.below hb9⟩, ⟨hB.size, n4⟩, ⟨f5.1, blk_below f5.2 hb9⟩, (by have := lt_of_some f5.2; omega)⟩); (· simp only [putAll, Act.put, List.setIfInBounds_toArray, List.set_cons_zero, List.set_cons_succ, i64_w, i32_w])
        refine join_ (σ := Option Addr × Nat × Nat × Option Addr × Nat × Nat × Option Addr × Nat × Nat × Option Addr × Nat × Nat × Nat × Nat) 3 (bs 8 31) (fun ⟨A4, k4, c4, A5, k5, c5, A6, k6, c6, A7, k7, c7, g4, _⟩ => [(17, .agg #[.bool (decide (n1 < 0)), .slice A4 k4 c4, .slice A5 k5 c5]), (19, .agg #[.bool (decide (n2 < 0)), .slice A6 k6 c6, .slice A7 k7 c7]), (6, .pointer (some ⟨g4, 0, none⟩))]) (fun ⟨A4, k4, c4, A5, k5, c5, A6, k6, c6, A7, k7, c7, g4, _⟩ w' => Below w3.heap.size w3 w' ∧ (Dec w' (.slice A4 k4 c4) (n1.natAbs : Int) 3 ∧ Dec w' (.slice A5 k5 c5) d1 3) ∧ (Dec w' (.slice A6 k6 c6) (n2.natAbs : Int) 3 ∧ Dec w' (.slice A7 k7 c7) d2 3) ∧ (w3.heap.size ≤ g4 ∧ w'.heap[g4]? = some (.cells #[.bool false, .slice none 0 0, .slice none 0 0] 60))) ?_ (fun hq_1_3_4 => ?_)
        · rintro ⟨A4, k4, c4, A5, k5, c5, A6, k6, c6, A7, k7, c7, g4, g5⟩ w' ⟨hB, f1, f3, f4⟩
          refine norm_ (a' := ?_) ?_ ?_; rotate_left; (· simp only [putAll, Act.put, List.setIfInBounds_toArray, List.set_cons_zero, List.set_cons_succ, i64_w, i32_w]; rfl)
          refine one_ (i := 5) (N := some 7) (bs 8 63) rfl rfl (by kernel_rfl) (by decide) (fun K hK => ?_)
          ·
            refine value_ (v := .pointer (some ⟨w'.heap.size, 0, none⟩)) (w1 := w'.alloc (.cells #[.bool false, .slice none 0 0, .slice none 0 0] 60)) (by rfl) rfl ?_ ?_
            · go_simp
            have hb9 : Below w'.heap.size w' (w'.alloc (.cells #[.bool false, .slice none 0 0, .slice none 0 0] 60)) := below_alloc (Below.refl _ _) _
            have n5 := blk_new w' (.cells #[.bool false, .slice none 0 0, .slice none 0 0] 60)
            have hB9 := hB.trans (hb9.mono hB.size)
            refine hK.out _ _ ⟨pw_cell_below hB9 a0, pw_cell_below hB9 a1, pw_cell_below hB9 b0, pw_cell_below hB9 b1⟩ (fun hHeld => ?_)
            clear hK K
            refine norm_ ?_ (hq_1_3_4_5 ⟨A4, k4, c4, A5, k5, c5, A6, k6, c6, A7, k7, c7, g4, w'.heap.size⟩ _ ⟨hB9, ⟨f1.1.below hb9, f1.2.below hb9⟩, ⟨f3.1.below hb9, f3.2.below hb9⟩, ⟨f4.1, blk_below f4.2 hb9⟩, ⟨hB.size, n5⟩, (by have := lt_of_some f4.2; omega)⟩); (· simp only [putAll, Act.put, List.setIfInBounds_toArray, List.set_cons_zero, List.set_cons_succ, i64_w, i32_w])
        refine join_ (σ := Option Addr × Nat × Nat × Option Addr × Nat × Nat × Option Addr × Nat × Nat × Option Addr × Nat × Nat × Nat × Nat) 4 (bs 8 39) (fun ⟨A4, k4, c4, A5, k5, c5, _, _, _, _, _, _, _, g5⟩ => [(17, .agg #[.bool (decide (n1 < 0)), .slice A4 k4 c4, .slice A5 k5 c5]), (7, .pointer (some ⟨g5, 0, none⟩))]) (fun ⟨A4, k4, c4, A5, k5, c5, _, _, _, _, _, _, _, g5⟩ w' => Below w3.heap.size w3 w' ∧ (Dec w' (.slice A4 k4 c4) (n1.natAbs : Int) 3 ∧ Dec w' (.slice A5 k5 c5) d1 3) ∧ (w3.heap.size ≤ g5 ∧ w'.heap[g5]? = some (.cells #[.bool false, .slice none 0 0, .slice none 0 0] 60))) ?_ (fun hq_1_5 => ?_)
        · rintro ⟨A4, k4, c4, A5, k5, c5, A6, k6, c6, A7, k7, c7, g4, g5⟩ w' ⟨hB, f1, f5⟩
          refine norm_ (a' := ?_) ?_ ?_; rotate_left; (· simp only [putAll, Act.put, List.setIfInBounds_toArray, List.set_cons_zero, List.set_cons_succ, i64_w, i32_w]; rfl)
          refine two_ (i := 3) (j := 4) (Ni := some 19) (Nj := some 6) (bs 8 47) (bs 8 55) rfl rfl rfl rfl (by kernel_rfl) (by decide) (by decide) (fun K hK => ?_) (fun K hK => ?_)
          ·
            refine goes_ Try.func52 (by kernel_rfl) rfl #[.agg #[.int .i64 n2, .int .i64 d2]] (by rfl) rfl rfl (by simp only [List.map_toArray, List.map_cons, List.map_nil]; rfl) ?_
            with_reducible refine (ratOf_n n2 d2 w' (by omega) (by omega) (by omega) (by omega)).mono ?_
            rintro e w9 ⟨A6, k6, c6, A7, k7, c7, rfl, n3a, n3b, hb9⟩
            refine ⟨_, rfl, ?_⟩
            have hB9 := hB.trans (hb9.mono hB.size)
            refine hK.out _ _ ⟨pw_cell_below hB9 a0, pw_cell_below hB9 a1, pw_cell_below hB9 b0, pw_cell_below hB9 b1⟩ (fun hHeld => ?_)
            clear hK K
            refine norm_ ?_ (hq_1_3_5 ⟨A4, k4, c4, A5, k5, c5, A6, k6, c6, A7, k7, c7, 0, g5⟩ _ ⟨hB9, ⟨f1.1.below hb9, f1.2.below hb9⟩, ⟨n3a, n3b⟩, ⟨f5.1, blk_below f5.2 hb9⟩⟩); (· simp only [putAll, Act.put, List.setIfInBounds_toArray, List.set_cons_zero, List.set_cons_succ, i64_w, i32_w])
          ·
            refine value_ (v := .pointer (some ⟨w'.heap.size, 0, none⟩)) (w1 := w'.alloc (.cells #[.bool false, .slice none 0 0, .slice none 0 0] 60)) (by rfl) rfl ?_ ?_
            · go_simp
            have hb9 : Below w'.heap.size w' (w'.alloc (.cells #[.bool false, .slice none 0 0, .slice none 0 0] 60)) := below_alloc (Below.refl _ _) _
            have n4 := blk_new w' (.cells #[.bool false, .slice none 0 0, .slice none 0 0] 60)
            have hB9 := hB.trans (hb9.mono hB.size)
            refine hK.out _ _ ⟨pw_cell_below hB9 a0, pw_cell_below hB9 a1, pw_cell_below hB9 b0, pw_cell_below hB9 b1⟩ (fun hHeld => ?_)
            clear hK K
            refine norm_ ?_ (hq_1_4_5 ⟨A4, k4, c4, A5, k5, c5, none, 0, 0, none, 0, 0, w'.heap.size, g5⟩ _ ⟨hB9, ⟨f1.1.below hb9, f1.2.below hb9⟩, ⟨hB.size, n4⟩, ⟨f5.1, blk_below f5.2 hb9⟩, (by have := lt_of_some f5.2; omega)⟩); (· simp only [putAll, Act.put, List.setIfInBounds_toArray, List.set_cons_zero, List.set_cons_succ, i64_w, i32_w])
        refine join_ (σ := Option Addr × Nat × Nat × Option Addr × Nat × Nat × Option Addr × Nat × Nat × Option Addr × Nat × Nat × Nat × Nat) 4 (bs 8 53) (fun ⟨_, _, _, _, _, _, _, _, _, _, _, _, g4, g5⟩ => [(6, .pointer (some ⟨g4, 0, none⟩)), (7, .pointer (some ⟨g5, 0, none⟩))]) (fun ⟨_, _, _, _, _, _, _, _, _, _, _, _, g4, g5⟩ w' => Below w3.heap.size w3 w' ∧ (w3.heap.size ≤ g4 ∧ w'.heap[g4]? = some (.cells #[.bool false, .slice none 0 0, .slice none 0 0] 60)) ∧ (w3.heap.size ≤ g5 ∧ w'.heap[g5]? = some (.cells #[.bool false, .slice none 0 0, .slice none 0 0] 60)) ∧ (g4 ≠ g5)) ?_ (fun hq_4_5 => ?_)
        · rintro ⟨A4, k4, c4, A5, k5, c5, A6, k6, c6, A7, k7, c7, g4, g5⟩ w' ⟨hB, f4, f5, ne4_5⟩
          refine norm_ (a' := ?_) ?_ ?_; rotate_left; (· simp only [putAll, Act.put, List.setIfInBounds_toArray, List.set_cons_zero, List.set_cons_succ, i64_w, i32_w]; rfl)
          refine one_ (i := 1) (N := some 17) (bs 8 55) rfl rfl (by kernel_rfl) (by decide) (fun K hK => ?_)
          ·
            refine goes_ Try.func52 (by kernel_rfl) rfl #[.agg #[.int .i64 n1, .int .i64 d1]] (by rfl) rfl rfl (by simp only [List.map_toArray, List.map_cons, List.map_nil]; rfl) ?_
            with_reducible refine (ratOf_n n1 d1 w' (by omega) (by omega) (by omega) (by omega)).mono ?_
            rintro e w9 ⟨A4, k4, c4, A5, k5, c5, rfl, n1a, n1b, hb9⟩
            refine ⟨_, rfl, ?_⟩
            have hB9 := hB.trans (hb9.mono hB.size)
            refine hK.out _ _ ⟨pw_cell_below hB9 a0, pw_cell_below hB9 a1, pw_cell_below hB9 b0, pw_cell_below hB9 b1⟩ (fun hHeld => ?_)
            clear hK K
            refine norm_ ?_ (hq_1_4_5 ⟨A4, k4, c4, A5, k5, c5, none, 0, 0, none, 0, 0, g4, g5⟩ _ ⟨hB9, ⟨n1a, n1b⟩, ⟨f4.1, blk_below f4.2 hb9⟩, ⟨f5.1, blk_below f5.2 hb9⟩, ne4_5⟩); (· simp only [putAll, Act.put, List.setIfInBounds_toArray, List.set_cons_zero, List.set_cons_succ, i64_w, i32_w])
        refine join_ (σ := Option Addr × Nat × Nat × Option Addr × Nat × Nat × Option Addr × Nat × Nat × Option Addr × Nat × Nat × Nat × Nat) 4 (bs 8 23) (fun ⟨A4, k4, c4, A5, k5, c5, _, _, _, _, _, _, g4, _⟩ => [(17, .agg #[.bool (decide (n1 < 0)), .slice A4 k4 c4, .slice A5 k5 c5]), (6, .pointer (some ⟨g4, 0, none⟩))]) (fun ⟨A4, k4, c4, A5, k5, c5, _, _, _, _, _, _, g4, _⟩ w' => Below w3.heap.size w3 w' ∧ (Dec w' (.slice A4 k4 c4) (n1.natAbs : Int) 3 ∧ Dec w' (.slice A5 k5 c5) d1 3) ∧ (w3.heap.size ≤ g4 ∧ w'.heap[g4]? = some (.cells #[.bool false, .slice none 0 0, .slice none 0 0] 60))) ?_ (fun hq_1_4 => ?_)
        · rintro ⟨A4, k4, c4, A5, k5, c5, A6, k6, c6, A7, k7, c7, g4, g5⟩ w' ⟨hB, f1, f4⟩
          refine norm_ (a' := ?_) ?_ ?_; rotate_left; (· simp only [putAll, Act.put, List.setIfInBounds_toArray, List.set_cons_zero, List.set_cons_succ, i64_w, i32_w]; rfl)
          refine two_ (i := 3) (j := 5) (Ni := some 19) (Nj := some 7) (bs 8 31) (bs 8 55) rfl rfl rfl rfl (by kernel_rfl) (by decide) (by decide) (fun K hK => ?_) (fun K hK => ?_)
          ·
            refine goes_ Try.func52 (by kernel_rfl) rfl #[.agg #[.int .i64 n2, .int .i64 d2]] (by rfl) rfl rfl (by simp only [List.map_toArray, List.map_cons, List.map_nil]; rfl) ?_
            with_reducible refine (ratOf_n n2 d2 w' (by omega) (by omega) (by omega) (by omega)).mono ?_
            rintro e w9 ⟨A6, k6, c6, A7, k7, c7, rfl, n3a, n3b, hb9⟩
            refine ⟨_, rfl, ?_⟩
            have hB9 := hB.trans (hb9.mono hB.size)
            refine hK.out _ _ ⟨pw_cell_below hB9 a0, pw_cell_below hB9 a1, pw_cell_below hB9 b0, pw_cell_below hB9 b1⟩ (fun hHeld => ?_)
            clear hK K
            refine norm_ ?_ (hq_1_3_4 ⟨A4, k4, c4, A5, k5, c5, A6, k6, c6, A7, k7, c7, g4, 0⟩ _ ⟨hB9, ⟨f1.1.below hb9, f1.2.below hb9⟩, ⟨n3a, n3b⟩, ⟨f4.1, blk_below f4.2 hb9⟩⟩); (· simp only [putAll, Act.put, List.setIfInBounds_toArray, List.set_cons_zero, List.set_cons_succ, i64_w, i32_w])
          ·
            refine value_ (v := .pointer (some ⟨w'.heap.size, 0, none⟩)) (w1 := w'.alloc (.cells #[.bool false, .slice none 0 0, .slice none 0 0] 60)) (by rfl) rfl ?_ ?_
            · go_simp
            have hb9 : Below w'.heap.size w' (w'.alloc (.cells #[.bool false, .slice none 0 0, .slice none 0 0] 60)) := below_alloc (Below.refl _ _) _
            have n5 := blk_new w' (.cells #[.bool false, .slice none 0 0, .slice none 0 0] 60)
            have hB9 := hB.trans (hb9.mono hB.size)
            refine hK.out _ _ ⟨pw_cell_below hB9 a0, pw_cell_below hB9 a1, pw_cell_below hB9 b0, pw_cell_below hB9 b1⟩ (fun hHeld => ?_)
            clear hK K
            refine norm_ ?_ (hq_1_4_5 ⟨A4, k4, c4, A5, k5, c5, none, 0, 0, none, 0, 0, g4, w'.heap.size⟩ _ ⟨hB9, ⟨f1.1.below hb9, f1.2.below hb9⟩, ⟨f4.1, blk_below f4.2 hb9⟩, ⟨hB.size, n5⟩, (by have := lt_of_some f4.2; omega)⟩); (· simp only [putAll, Act.put, List.setIfInBounds_toArray, List.set_cons_zero, List.set_cons_succ, i64_w, i32_w])
        refine join_ (σ := Option Addr × Nat × Nat × Option Addr × Nat × Nat × Option Addr × Nat × Nat × Option Addr × Nat × Nat × Nat × Nat) 4 (bs 8 15) (fun ⟨A4, k4, c4, A5, k5, c5, A6, k6, c6, A7, k7, c7, _, _⟩ => [(17, .agg #[.bool (decide (n1 < 0)), .slice A4 k4 c4, .slice A5 k5 c5]), (19, .agg #[.bool (decide (n2 < 0)), .slice A6 k6 c6, .slice A7 k7 c7])]) (fun ⟨A4, k4, c4, A5, k5, c5, A6, k6, c6, A7, k7, c7, _, _⟩ w' => Below w3.heap.size w3 w' ∧ (Dec w' (.slice A4 k4 c4) (n1.natAbs : Int) 3 ∧ Dec w' (.slice A5 k5 c5) d1 3) ∧ (Dec w' (.slice A6 k6 c6) (n2.natAbs : Int) 3 ∧ Dec w' (.slice A7 k7 c7) d2 3)) ?_ (fun hq_1_3 => ?_)
        · rintro ⟨A4, k4, c4, A5, k5, c5, A6, k6, c6, A7, k7, c7, g4, g5⟩ w' ⟨hB, f1, f3⟩
          refine norm_ (a' := ?_) ?_ ?_; rotate_left; (· simp only [putAll, Act.put, List.setIfInBounds_toArray, List.set_cons_zero, List.set_cons_succ, i64_w, i32_w]; rfl)
          refine two_ (i := 4) (j := 5) (Ni := some 6) (Nj := some 7) (bs 8 31) (bs 8 47) rfl rfl rfl rfl (by kernel_rfl) (by decide) (by decide) (fun K hK => ?_) (fun K hK => ?_)
          ·
            refine value_ (v := .pointer (some ⟨w'.heap.size, 0, none⟩)) (w1 := w'.alloc (.cells #[.bool false, .slice none 0 0, .slice none 0 0] 60)) (by rfl) rfl ?_ ?_
            · go_simp
            have hb9 : Below w'.heap.size w' (w'.alloc (.cells #[.bool false, .slice none 0 0, .slice none 0 0] 60)) := below_alloc (Below.refl _ _) _
            have n4 := blk_new w' (.cells #[.bool false, .slice none 0 0, .slice none 0 0] 60)
            have hB9 := hB.trans (hb9.mono hB.size)
            refine hK.out _ _ ⟨pw_cell_below hB9 a0, pw_cell_below hB9 a1, pw_cell_below hB9 b0, pw_cell_below hB9 b1⟩ (fun hHeld => ?_)
            clear hK K
            refine norm_ ?_ (hq_1_3_4 ⟨A4, k4, c4, A5, k5, c5, A6, k6, c6, A7, k7, c7, w'.heap.size, 0⟩ _ ⟨hB9, ⟨f1.1.below hb9, f1.2.below hb9⟩, ⟨f3.1.below hb9, f3.2.below hb9⟩, ⟨hB.size, n4⟩⟩); (· simp only [putAll, Act.put, List.setIfInBounds_toArray, List.set_cons_zero, List.set_cons_succ, i64_w, i32_w])
          ·
            refine value_ (v := .pointer (some ⟨w'.heap.size, 0, none⟩)) (w1 := w'.alloc (.cells #[.bool false, .slice none 0 0, .slice none 0 0] 60)) (by rfl) rfl ?_ ?_
            · go_simp
            have hb9 : Below w'.heap.size w' (w'.alloc (.cells #[.bool false, .slice none 0 0, .slice none 0 0] 60)) := below_alloc (Below.refl _ _) _
            have n5 := blk_new w' (.cells #[.bool false, .slice none 0 0, .slice none 0 0] 60)
            have hB9 := hB.trans (hb9.mono hB.size)
            refine hK.out _ _ ⟨pw_cell_below hB9 a0, pw_cell_below hB9 a1, pw_cell_below hB9 b0, pw_cell_below hB9 b1⟩ (fun hHeld => ?_)
            clear hK K
            refine norm_ ?_ (hq_1_3_5 ⟨A4, k4, c4, A5, k5, c5, A6, k6, c6, A7, k7, c7, 0, w'.heap.size⟩ _ ⟨hB9, ⟨f1.1.below hb9, f1.2.below hb9⟩, ⟨f3.1.below hb9, f3.2.below hb9⟩, ⟨hB.size, n5⟩⟩); (· simp only [putAll, Act.put, List.setIfInBounds_toArray, List.set_cons_zero, List.set_cons_succ, i64_w, i32_w])
        refine join_ (σ := Option Addr × Nat × Nat × Option Addr × Nat × Nat × Option Addr × Nat × Nat × Option Addr × Nat × Nat × Nat × Nat) 5 (bs 8 7) (fun ⟨A4, k4, c4, A5, k5, c5, _, _, _, _, _, _, _, _⟩ => [(17, .agg #[.bool (decide (n1 < 0)), .slice A4 k4 c4, .slice A5 k5 c5])]) (fun ⟨A4, k4, c4, A5, k5, c5, _, _, _, _, _, _, _, _⟩ w' => Below w3.heap.size w3 w' ∧ (Dec w' (.slice A4 k4 c4) (n1.natAbs : Int) 3 ∧ Dec w' (.slice A5 k5 c5) d1 3)) ?_ (fun hq_1 => ?_)
        · rintro ⟨A4, k4, c4, A5, k5, c5, A6, k6, c6, A7, k7, c7, g4, g5⟩ w' ⟨hB, f1⟩
          refine norm_ (a' := ?_) ?_ ?_; rotate_left; (· simp only [putAll, Act.put, List.setIfInBounds_toArray, List.set_cons_zero, List.set_cons_succ, i64_w, i32_w]; rfl)
          refine three_ (i := 3) (j := 4) (k := 5) (Ni := some 19) (Nj := some 6) (Nk := some 7) (bs 8 15) (bs 8 23) (bs 8 39) rfl rfl rfl rfl rfl rfl (by kernel_rfl) (by decide) (by decide) (by decide) (fun K hK => ?_) (fun K hK => ?_) (fun K hK => ?_)
          ·
            refine goes_ Try.func52 (by kernel_rfl) rfl #[.agg #[.int .i64 n2, .int .i64 d2]] (by rfl) rfl rfl (by simp only [List.map_toArray, List.map_cons, List.map_nil]; rfl) ?_
            with_reducible refine (ratOf_n n2 d2 w' (by omega) (by omega) (by omega) (by omega)).mono ?_
            rintro e w9 ⟨A6, k6, c6, A7, k7, c7, rfl, n3a, n3b, hb9⟩
            refine ⟨_, rfl, ?_⟩
            have hB9 := hB.trans (hb9.mono hB.size)
            refine hK.out _ _ ⟨pw_cell_below hB9 a0, pw_cell_below hB9 a1, pw_cell_below hB9 b0, pw_cell_below hB9 b1⟩ (fun hHeld => ?_)
            clear hK K
            refine norm_ ?_ (hq_1_3 ⟨A4, k4, c4, A5, k5, c5, A6, k6, c6, A7, k7, c7, 0, 0⟩ _ ⟨hB9, ⟨f1.1.below hb9, f1.2.below hb9⟩, ⟨n3a, n3b⟩⟩); (· simp only [putAll, Act.put, List.setIfInBounds_toArray, List.set_cons_zero, List.set_cons_succ, i64_w, i32_w])
          ·
            refine value_ (v := .pointer (some ⟨w'.heap.size, 0, none⟩)) (w1 := w'.alloc (.cells #[.bool false, .slice none 0 0, .slice none 0 0] 60)) (by rfl) rfl ?_ ?_
            · go_simp
            have hb9 : Below w'.heap.size w' (w'.alloc (.cells #[.bool false, .slice none 0 0, .slice none 0 0] 60)) := below_alloc (Below.refl _ _) _
            have n4 := blk_new w' (.cells #[.bool false, .slice none 0 0, .slice none 0 0] 60)
            have hB9 := hB.trans (hb9.mono hB.size)
            refine hK.out _ _ ⟨pw_cell_below hB9 a0, pw_cell_below hB9 a1, pw_cell_below hB9 b0, pw_cell_below hB9 b1⟩ (fun hHeld => ?_)
            clear hK K
            refine norm_ ?_ (hq_1_4 ⟨A4, k4, c4, A5, k5, c5, none, 0, 0, none, 0, 0, w'.heap.size, 0⟩ _ ⟨hB9, ⟨f1.1.below hb9, f1.2.below hb9⟩, ⟨hB.size, n4⟩⟩); (· simp only [putAll, Act.put, List.setIfInBounds_toArray, List.set_cons_zero, List.set_cons_succ, i64_w, i32_w])
          ·
            refine value_ (v := .pointer (some ⟨w'.heap.size, 0, none⟩)) (w1 := w'.alloc (.cells #[.bool false, .slice none 0 0, .slice none 0 0] 60)) (by rfl) rfl ?_ ?_
            · go_simp
            have hb9 : Below w'.heap.size w' (w'.alloc (.cells #[.bool false, .slice none 0 0, .slice none 0 0] 60)) := below_alloc (Below.refl _ _) _
            have n5 := blk_new w' (.cells #[.bool false, .slice none 0 0, .slice none 0 0] 60)
            have hB9 := hB.trans (hb9.mono hB.size)
            refine hK.out _ _ ⟨pw_cell_below hB9 a0, pw_cell_below hB9 a1, pw_cell_below hB9 b0, pw_cell_below hB9 b1⟩ (fun hHeld => ?_)
            clear hK K
            refine norm_ ?_ (hq_1_5 ⟨A4, k4, c4, A5, k5, c5, none, 0, 0, none, 0, 0, 0, w'.heap.size⟩ _ ⟨hB9, ⟨f1.1.below hb9, f1.2.below hb9⟩, ⟨hB.size, n5⟩⟩); (· simp only [putAll, Act.put, List.setIfInBounds_toArray, List.set_cons_zero, List.set_cons_succ, i64_w, i32_w])
        refine join_ (σ := Option Addr × Nat × Nat × Option Addr × Nat × Nat × Option Addr × Nat × Nat × Option Addr × Nat × Nat × Nat × Nat) 5 (bs 8 21) (fun ⟨_, _, _, _, _, _, _, _, _, _, _, _, g4, _⟩ => [(6, .pointer (some ⟨g4, 0, none⟩))]) (fun ⟨_, _, _, _, _, _, _, _, _, _, _, _, g4, _⟩ w' => Below w3.heap.size w3 w' ∧ (w3.heap.size ≤ g4 ∧ w'.heap[g4]? = some (.cells #[.bool false, .slice none 0 0, .slice none 0 0] 60))) ?_ (fun hq_4 => ?_)
        · rintro ⟨A4, k4, c4, A5, k5, c5, A6, k6, c6, A7, k7, c7, g4, g5⟩ w' ⟨hB, f4⟩
          refine norm_ (a' := ?_) ?_ ?_; rotate_left; (· simp only [putAll, Act.put, List.setIfInBounds_toArray, List.set_cons_zero, List.set_cons_succ, i64_w, i32_w]; rfl)
          refine two_ (i := 1) (j := 5) (Ni := some 17) (Nj := some 7) (bs 8 23) (bs 8 53) rfl rfl rfl rfl (by kernel_rfl) (by decide) (by decide) (fun K hK => ?_) (fun K hK => ?_)
          ·
            refine goes_ Try.func52 (by kernel_rfl) rfl #[.agg #[.int .i64 n1, .int .i64 d1]] (by rfl) rfl rfl (by simp only [List.map_toArray, List.map_cons, List.map_nil]; rfl) ?_
            with_reducible refine (ratOf_n n1 d1 w' (by omega) (by omega) (by omega) (by omega)).mono ?_
            rintro e w9 ⟨A4, k4, c4, A5, k5, c5, rfl, n1a, n1b, hb9⟩
            refine ⟨_, rfl, ?_⟩
            have hB9 := hB.trans (hb9.mono hB.size)
            refine hK.out _ _ ⟨pw_cell_below hB9 a0, pw_cell_below hB9 a1, pw_cell_below hB9 b0, pw_cell_below hB9 b1⟩ (fun hHeld => ?_)
            clear hK K
            refine norm_ ?_ (hq_1_4 ⟨A4, k4, c4, A5, k5, c5, none, 0, 0, none, 0, 0, g4, 0⟩ _ ⟨hB9, ⟨n1a, n1b⟩, ⟨f4.1, blk_below f4.2 hb9⟩⟩); (· simp only [putAll, Act.put, List.setIfInBounds_toArray, List.set_cons_zero, List.set_cons_succ, i64_w, i32_w])
          ·
            refine value_ (v := .pointer (some ⟨w'.heap.size, 0, none⟩)) (w1 := w'.alloc (.cells #[.bool false, .slice none 0 0, .slice none 0 0] 60)) (by rfl) rfl ?_ ?_
            · go_simp
            have hb9 : Below w'.heap.size w' (w'.alloc (.cells #[.bool false, .slice none 0 0, .slice none 0 0] 60)) := below_alloc (Below.refl _ _) _
            have n5 := blk_new w' (.cells #[.bool false, .slice none 0 0, .slice none 0 0] 60)
            have hB9 := hB.trans (hb9.mono hB.size)
            refine hK.out _ _ ⟨pw_cell_below hB9 a0, pw_cell_below hB9 a1, pw_cell_below hB9 b0, pw_cell_below hB9 b1⟩ (fun hHeld => ?_)
            clear hK K
            refine norm_ ?_ (hq_4_5 ⟨none, 0, 0, none, 0, 0, none, 0, 0, none, 0, 0, g4, w'.heap.size⟩ _ ⟨hB9, ⟨f4.1, blk_below f4.2 hb9⟩, ⟨hB.size, n5⟩, (by have := lt_of_some f4.2; omega)⟩); (· simp only [putAll, Act.put, List.setIfInBounds_toArray, List.set_cons_zero, List.set_cons_succ, i64_w, i32_w])
        refine join_ (σ := Option Addr × Nat × Nat × Option Addr × Nat × Nat × Option Addr × Nat × Nat × Option Addr × Nat × Nat × Nat × Nat) 5 (bs 8 37) (fun ⟨_, _, _, _, _, _, _, _, _, _, _, _, _, g5⟩ => [(7, .pointer (some ⟨g5, 0, none⟩))]) (fun ⟨_, _, _, _, _, _, _, _, _, _, _, _, _, g5⟩ w' => Below w3.heap.size w3 w' ∧ (w3.heap.size ≤ g5 ∧ w'.heap[g5]? = some (.cells #[.bool false, .slice none 0 0, .slice none 0 0] 60))) ?_ (fun hq_5 => ?_)
        · rintro ⟨A4, k4, c4, A5, k5, c5, A6, k6, c6, A7, k7, c7, g4, g5⟩ w' ⟨hB, f5⟩
          refine norm_ (a' := ?_) ?_ ?_; rotate_left; (· simp only [putAll, Act.put, List.setIfInBounds_toArray, List.set_cons_zero, List.set_cons_succ, i64_w, i32_w]; rfl)
          refine two_ (i := 1) (j := 4) (Ni := some 17) (Nj := some 6) (bs 8 39) (bs 8 53) rfl rfl rfl rfl (by kernel_rfl) (by decide) (by decide) (fun K hK => ?_) (fun K hK => ?_)
          ·
            refine goes_ Try.func52 (by kernel_rfl) rfl #[.agg #[.int .i64 n1, .int .i64 d1]] (by rfl) rfl rfl (by simp only [List.map_toArray, List.map_cons, List.map_nil]; rfl) ?_
            with_reducible refine (ratOf_n n1 d1 w' (by omega) (by omega) (by omega) (by omega)).mono ?_
            rintro e w9 ⟨A4, k4, c4, A5, k5, c5, rfl, n1a, n1b, hb9⟩
            refine ⟨_, rfl, ?_⟩
            have hB9 := hB.trans (hb9.mono hB.size)
            refine hK.out _ _ ⟨pw_cell_below hB9 a0, pw_cell_below hB9 a1, pw_cell_below hB9 b0, pw_cell_below hB9 b1⟩ (fun hHeld => ?_)
            clear hK K
            refine norm_ ?_ (hq_1_5 ⟨A4, k4, c4, A5, k5, c5, none, 0, 0, none, 0, 0, 0, g5⟩ _ ⟨hB9, ⟨n1a, n1b⟩, ⟨f5.1, blk_below f5.2 hb9⟩⟩); (· simp only [putAll, Act.put, List.setIfInBounds_toArray, List.set_cons_zero, List.set_cons_succ, i64_w, i32_w])
          ·
            refine value_ (v := .pointer (some ⟨w'.heap.size, 0, none⟩)) (w1 := w'.alloc (.cells #[.bool false, .slice none 0 0, .slice none 0 0] 60)) (by rfl) rfl ?_ ?_
            · go_simp
            have hb9 : Below w'.heap.size w' (w'.alloc (.cells #[.bool false, .slice none 0 0, .slice none 0 0] 60)) := below_alloc (Below.refl _ _) _
            have n4 := blk_new w' (.cells #[.bool false, .slice none 0 0, .slice none 0 0] 60)
            have hB9 := hB.trans (hb9.mono hB.size)
            refine hK.out _ _ ⟨pw_cell_below hB9 a0, pw_cell_below hB9 a1, pw_cell_below hB9 b0, pw_cell_below hB9 b1⟩ (fun hHeld => ?_)
            clear hK K
            refine norm_ ?_ (hq_4_5 ⟨none, 0, 0, none, 0, 0, none, 0, 0, none, 0, 0, w'.heap.size, g5⟩ _ ⟨hB9, ⟨hB.size, n4⟩, ⟨f5.1, blk_below f5.2 hb9⟩, (by have := lt_of_some f5.2; omega)⟩); (· simp only [putAll, Act.put, List.setIfInBounds_toArray, List.set_cons_zero, List.set_cons_succ, i64_w, i32_w])
        have hB := below_drew' (Below.refl _ w3.drew)
        refine three_ (i := 1) (j := 4) (k := 5) (Ni := some 17) (Nj := some 6) (Nk := some 7) (bs 8 7) (bs 8 21) (bs 8 37) rfl rfl rfl rfl rfl rfl (by kernel_rfl) (by decide) (by decide) (by decide) (fun K hK => ?_) (fun K hK => ?_) (fun K hK => ?_)
        ·
          refine goes_ Try.func52 (by kernel_rfl) rfl #[.agg #[.int .i64 n1, .int .i64 d1]] (by rfl) rfl rfl (by simp only [List.map_toArray, List.map_cons, List.map_nil]; rfl) ?_
          with_reducible refine (ratOf_n n1 d1 w3.drew (by omega) (by omega) (by omega) (by omega)).mono ?_
          rintro e w9 ⟨A4, k4, c4, A5, k5, c5, rfl, n1a, n1b, hb9⟩
          refine ⟨_, rfl, ?_⟩
          have hB9 := hB.trans (hb9.mono hB.size)
          refine hK.out _ _ ⟨pw_cell_below hB9 a0, pw_cell_below hB9 a1, pw_cell_below hB9 b0, pw_cell_below hB9 b1⟩ (fun hHeld => ?_)
          clear hK K
          refine norm_ ?_ (hq_1 ⟨A4, k4, c4, A5, k5, c5, none, 0, 0, none, 0, 0, 0, 0⟩ _ ⟨hB9, ⟨n1a, n1b⟩⟩); (· simp only [putAll, Act.put, List.setIfInBounds_toArray, List.set_cons_zero, List.set_cons_succ, i64_w, i32_w])
        ·
          refine value_ (v := .pointer (some ⟨w3.drew.heap.size, 0, none⟩)) (w1 := w3.drew.alloc (.cells #[.bool false, .slice none 0 0, .slice none 0 0] 60)) (by rfl) rfl ?_ ?_
          · go_simp
          have hb9 : Below w3.drew.heap.size w3.drew (w3.drew.alloc (.cells #[.bool false, .slice none 0 0, .slice none 0 0] 60)) := below_alloc (Below.refl _ _) _
          have n4 := blk_new w3.drew (.cells #[.bool false, .slice none 0 0, .slice none 0 0] 60)
          have hB9 := hB.trans (hb9.mono hB.size)
          refine hK.out _ _ ⟨pw_cell_below hB9 a0, pw_cell_below hB9 a1, pw_cell_below hB9 b0, pw_cell_below hB9 b1⟩ (fun hHeld => ?_)
          clear hK K
          refine norm_ ?_ (hq_4 ⟨none, 0, 0, none, 0, 0, none, 0, 0, none, 0, 0, w3.drew.heap.size, 0⟩ _ ⟨hB9, ⟨hB.size, n4⟩⟩); (· simp only [putAll, Act.put, List.setIfInBounds_toArray, List.set_cons_zero, List.set_cons_succ, i64_w, i32_w])
        ·
          refine value_ (v := .pointer (some ⟨w3.drew.heap.size, 0, none⟩)) (w1 := w3.drew.alloc (.cells #[.bool false, .slice none 0 0, .slice none 0 0] 60)) (by rfl) rfl ?_ ?_
          · go_simp
          have hb9 : Below w3.drew.heap.size w3.drew (w3.drew.alloc (.cells #[.bool false, .slice none 0 0, .slice none 0 0] 60)) := below_alloc (Below.refl _ _) _
          have n5 := blk_new w3.drew (.cells #[.bool false, .slice none 0 0, .slice none 0 0] 60)
          have hB9 := hB.trans (hb9.mono hB.size)
          refine hK.out _ _ ⟨pw_cell_below hB9 a0, pw_cell_below hB9 a1, pw_cell_below hB9 b0, pw_cell_below hB9 b1⟩ (fun hHeld => ?_)
          clear hK K
          refine norm_ ?_ (hq_5 ⟨none, 0, 0, none, 0, 0, none, 0, 0, none, 0, 0, 0, w3.drew.heap.size⟩ _ ⟨hB9, ⟨hB.size, n5⟩⟩); (· simp only [putAll, Act.put, List.setIfInBounds_toArray, List.set_cons_zero, List.set_cons_succ, i64_w, i32_w])
      rintro ⟨A4, k4, c4, A5, k5, c5, A6, k6, c6, A7, k7, c7, g4, g5⟩ w' ⟨hB, f1, f3, f4, f5, ne4_5⟩
      refine norm_ (a' := ?_) ?_ ?_; rotate_left; (· simp only [putAll, Act.put, List.setIfInBounds_toArray, List.set_cons_zero, List.set_cons_succ, i64_w, i32_w]; rfl)
      have hHeld : w'.cell? ⟨w.heap.size, 0, none⟩ = some (.int .i64 n1) ∧ w'.cell? ⟨w.heap.size, 1, none⟩ = some (.int .i64 d1) ∧ w'.cell? ⟨w.heap.size + 1, 0, none⟩ = some (.int .i64 n2) ∧ w'.cell? ⟨w.heap.size + 1, 1, none⟩ = some (.int .i64 d2) := ⟨pw_cell_below hB a0, pw_cell_below hB a1, pw_cell_below hB b0, pw_cell_below hB b1⟩
      refine last_ (i := 6) (N := none) (bs 8 127) rfl rfl (by kernel_rfl) (by decide) (fun K hK => ?_)
      obtain ⟨r0, r1, r2, r3, r4, r5⟩ := rat_cells f4.2
      obtain ⟨s0, s1, s2, s3, s4, s5⟩ := rat_cells f5.2
      refine skip_ (w1 := ?_) (by rfl) rfl ?_ ?_
      rotate_left
      · (go_simp; with_reducible rfl)
      refine hK.out _ _ ?_
      clear hK K
      refine last_ (i := 7) (N := none) (bs 8 255) rfl rfl (by kernel_rfl) (by decide) (fun K hK => ?_)
      have hz := (fill3_heap w' g4 (decide (n1 < 0)) (.slice A4 k4 c4) (.slice A5 k5 c5) g5 (Ne.symm ne4_5)).trans f5.2
      obtain ⟨s0, s1, s2, s3, s4, s5⟩ := rat_cells hz
      unfold fill3 at s0 s1 s2 s3 s4 s5
      refine skip_ (w1 := ?_) (by rfl) rfl ?_ ?_
      rotate_left
      · (go_simp; with_reducible rfl)
      refine hK.out _ _ ?_
      clear hK K
      refine done_ (by kernel_rfl) ?_
      have hfl := fill_two f4.2 f5.2 ne4_5 (decide (n1 < 0)) (decide (n2 < 0)) (.slice A4 k4 c4) (.slice A5 k5 c5) (.slice A6 k6 c6) (.slice A7 k7 c7)
      have hz := (fill3_heap w' g4 (decide (n1 < 0)) (.slice A4 k4 c4) (.slice A5 k5 c5) g5 (Ne.symm ne4_5)).trans f5.2
      have hD : D4 (fill3 (fill3 w' g4 (decide (n1 < 0)) (.slice A4 k4 c4) (.slice A5 k5 c5)) g5 (decide (n2 < 0)) (.slice A6 k6 c6) (.slice A7 k7 c7)) (.slice A4 k4 c4) (.slice A5 k5 c5) (.slice A6 k6 c6) (.slice A7 k7 c7) (n1.natAbs : Int) d1 (n2.natAbs : Int) d2 3 3 :=
        ⟨(f1.1.fill f4.2 _ _ _).fill hz _ _ _, (f1.2.fill f4.2 _ _ _).fill hz _ _ _, (f3.1.fill f4.2 _ _ _).fill hz _ _ _, (f3.2.fill f4.2 _ _ _).fill hz _ _ _⟩
      have hbF : Below w3.heap.size w3 (fill3 (fill3 w' g4 (decide (n1 < 0)) (.slice A4 k4 c4) (.slice A5 k5 c5)) g5 (decide (n2 < 0)) (.slice A6 k6 c6) (.slice A7 k7 c7)) := fill3_below (fill3_below hB f4.1 _ _ _) f5.1 _ _ _
      have hBF := HB3.out.step hbF
      generalize hFW : fill3 (fill3 w' g4 (decide (n1 < 0)) (.slice A4 k4 c4) (.slice A5 k5 c5)) g5 (decide (n2 < 0)) (.slice A6 k6 c6) (.slice A7 k7 c7) = FW at *
      unfold fill3 at hFW
      have HF := Aside0.mk (And.intro hfl (And.intro hD hBF))
      rw [hFW]
      clear hfl hz hD hbF hBF hFW hB f1 f3 f4 f5 ne4_5 a0 a1 b0 b1 hHeld HB3
      obtain ⟨x0, x1, x2, _⟩ := rat_cells HF.out.1.1
      obtain ⟨y0, y1, y2, _⟩ := rat_cells HF.out.1.2
      go_wp2_with fail
      refine (lessT_n n1 d1 n2 d2 A4 A5 A6 A7 k4 c4 k5 c5 k6 c6 k7 c7 FW HF.out.2.1).mono ?_
      rintro e w5 ⟨rfl, hb5⟩
      rcases Int.lt_trichotomy (n1 * d2) (n2 * d1) with h | h | h
      · have hc : cmpI (n1 * d2) (n2 * d1) = -1 := by unfold cmpI; rw [if_pos h]
        rw [decide_eq_true h]
        have HC := Aside0.mk hc
        have HB5 := Aside0.mk (HF.out.2.2.step hb5).below
        clear h hc hb5
        go_wp2_with fail
        go_ret2
        exact ⟨by rw [HC.out]; rfl, HB5.out⟩
      · have hc : cmpI (n1 * d2) (n2 * d1) = 0 := by unfold cmpI; rw [if_neg (by omega), if_neg (by omega)]
        have h1 : decide (n1 * d2 < n2 * d1) = false := decide_eq_false (by omega)
        have h2 : decide (n2 * d1 < n1 * d2) = false := decide_eq_false (by omega)
        rw [h1]
        have HC := Aside0.mk (And.intro hc h2)
        have HB5 := Aside0.mk (And.intro (HF.out.2.2.step hb5) (And.intro (HF.out.2.1.below hb5) (And.intro (blk_below HF.out.1.1 hb5) (blk_below HF.out.1.2 hb5))))
        clear h hc h1 h2 hb5 x0 x1 x2 y0 y1 y2
        obtain ⟨x0, x1, x2, _⟩ := rat_cells HB5.out.2.2.1
        obtain ⟨y0, y1, y2, _⟩ := rat_cells HB5.out.2.2.2
        go_wp2_with fail
        refine (lessT_n n2 d2 n1 d1 A6 A7 A4 A5 k6 c6 k7 c7 k4 c4 k5 c5 w5 HB5.out.2.1.swap).mono ?_
        rintro e w6 ⟨rfl, hb6⟩
        rw [HC.out.2]
        go_wp2_with fail
        go_ret2
        exact ⟨by rw [HC.out.1]; rfl, (HB5.out.1.step hb6).below⟩
      · have hc : cmpI (n1 * d2) (n2 * d1) = 1 := by unfold cmpI; rw [if_neg (by omega), if_pos h]
        have h1 : decide (n1 * d2 < n2 * d1) = false := decide_eq_false (by omega)
        have h2 : decide (n2 * d1 < n1 * d2) = true := decide_eq_true h
        rw [h1]
        have HC := Aside0.mk (And.intro hc h2)
        have HB5 := Aside0.mk (And.intro (HF.out.2.2.step hb5) (And.intro (HF.out.2.1.below hb5) (And.intro (blk_below HF.out.1.1 hb5) (blk_below HF.out.1.2 hb5))))
        clear h hc h1 h2 hb5 x0 x1 x2 y0 y1 y2
        obtain ⟨x0, x1, x2, _⟩ := rat_cells HB5.out.2.2.1
        obtain ⟨y0, y1, y2, _⟩ := rat_cells HB5.out.2.2.2
        go_wp2_with fail
        refine (lessT_n n2 d2 n1 d1 A6 A7 A4 A5 k6 c6 k7 c7 k4 c4 k5 c5 w5 HB5.out.2.1.swap).mono ?_
        rintro e w6 ⟨rfl, hb6⟩
        rw [HC.out.2]
        go_wp2_with fail
        go_ret2
        exact ⟨by rw [HC.out.1]; rfl, (HB5.out.1.step hb6).below⟩
end Go.Proofs.Ytdginjpppgfdaaa.Fg

namespace Go.Proofs.Ytdginjpppgfdaaa.Cp
open Go.RowKit Go Go.Proofs.YtdginjpppgfdaaaW.PrintWords Go.Proofs.YtdginjpppgfdaaaW.PrintLast Go.Proofs.YtdginjpppgfdaaaW.PrintMore Go.Proofs.Ytdginjpppgfdaaa.Mn Go.Proofs.Ytdginjpppgfdaaa.Nd Go.Proofs.Ytdginjpppgfdaaa.Ea Go.Proofs.Ytdginjpppgfdaaa.Eb Go.Proofs.Ytdginjpppgfdaaa.Ec Go.Proofs.Ytdginjpppgfdaaa.Ee Go.Proofs.Ytdginjpppgfdaaa.Ra Go.Proofs.Ytdginjpppgfdaaa.Rb Go.Proofs.Ytdginjpppgfdaaa.Rc Go.Proofs.Ytdginjpppgfdaaa.Rd Go.Proofs.Ytdginjpppgfdaaa.Lb Go.Proofs.Ytdginjpppgfdaaa.Lw Go.Proofs.Ytdginjpppgfdaaa.Lc Go.Proofs.Ytdginjpppgfdaaa.Fg
set_option linter.unusedVariables false
set_option linter.unusedSimpArgs false

theorem FCmpT_n {n1 d1 n2 d2 N E : Int} (h : vCmp n1 d1 n2 d2 = .tuple #[.int .i64 N, .int .i64 E]) (w : World) : Calls Try.prog 38 #[.agg #[.int .i64 n1, .int .i64 d1], .agg #[.int .i64 n2, .int .i64 d2]] w (PvP w N E) := (rCmp_n n1 d1 n2 d2 w).mono fun e w' hp => PvP.of hp h
theorem vCmp_form (x y z t : Int) : ∃ c e, vCmp x y z t = .tuple #[.int .i64 c, .int .i64 e] := by
  unfold vCmp two er
  split
  all_goals exact ⟨_, _, rfl⟩
set_option maxHeartbeats 32000000 in
set_option maxRecDepth 100000 in
theorem walk (na da nb db : Int) (w : World) (_ : (Lit.int .i64 na).wf = true) (_ : (Lit.int .i64 da).wf = true) (_ : (Lit.int .i64 nb).wf = true) (_ : (Lit.int .i64 db).wf = true) :
    Calls Try.prog 10 #[.agg #[.int .i64 na, .int .i64 da], .agg #[.int .i64 nb, .int .i64 db]] w (fun e w' => e = .returned (.bool true) ∧ Below w.heap.size w w') := by
  have hu := Try.underlying25
  obtain ⟨c, e, h⟩ := vCmp_form na da nb db
  have HC := Aside0.mk (And.intro (CmpT_n h) (FCmpT_n h))
  clear h
  go_enter Try.func10, Try.ntmps10
  go_wp2_with fail
  refine (HC.out.1 _).mono ?_
  rintro e w1 ⟨rfl, hb⟩
  have HS1 := Aside0.mk (St.call (((St.start w).box (na) (da) (g := w.heap.size) (by simp)).box (nb) (db) (g := w.heap.size + 1) (by simp)) hb)
  clear hb
  obtain ⟨q_a0, q_a1⟩ := HS1.out.get (g := w.heap.size) (n := na) (d := da) (by simp)
  have q_a2 := HS1.out.lt (g := w.heap.size) (n := na) (d := da) (by simp)
  obtain ⟨q_b0, q_b1⟩ := HS1.out.get (g := w.heap.size + 1) (n := nb) (d := db) (by simp)
  have q_b2 := HS1.out.lt (g := w.heap.size + 1) (n := nb) (d := db) (by simp)
  go_wp2_with fail
  refine (HC.out.2 _).mono ?_
  rintro e w2 ⟨rfl, hb⟩
  have HS2 := Aside0.mk (St.call (HS1.out) hb)
  clear hb
  clear q_a0 q_a1 q_a2 q_b0 q_b1 q_b2
  go_wp2_with fail
  refine (awake_n _).mono ?_
  rintro e wz ⟨rfl, hb⟩
  go_wp2_with fail
  go_ret
  exact ⟨rfl, (St.call (HS2.out) hb).b⟩
end Go.Proofs.Ytdginjpppgfdaaa.Cp

namespace Go.Proofs.Ytdginjpppgfdaaa.exactComparesRow
open Go.ChangeShapes Go.WideShapes Go.ChangeAt Go.RowKit Go.Proofs.Ytdginjpppgfdaaa.O5
set_option linter.unusedVariables false
set_option maxRecDepth 100000 in
theorem lifted (os : Os) (started : os.Started) (H : Type) (enc : TypeId × Value → H) :
    ReturnsInHanded {} Try.checked os 10 .any (Rows.exactComparesSpec.pre6 enc Try.prog Try.f10 Rows.exactComparesRow.domain false) (Rows.exactComparesSpec.post enc Try.prog Try.f10 false true false false) := by
  refine returnsInHanded_of_change_sized (C := Try.checked) own started (by kernel_rfl) Try.func10
    (ChangeSpec.witness6 (enc := enc) (C := Try.checked) false ⟨#[], #[.agg #[.int .i64 0, .int .i64 0], .agg #[.int .i64 0, .int .i64 0]], []⟩ 8 (by kernel_rfl) (by kernel_rfl) (by kernel_rfl) (by kernel_rfl)) ?_
  intro W base args ds gs before hval0 hW hcnd hsz0 _
  have hval : ∀ (j : Nat) t v, Try.f10.params[j]? = some t → args[j]? = some v → Value.okWide Try.prog W .any base t v := hval0
  have hW' := hW
  obtain ⟨p, q, hA0, hV, rfl, hfz, hnd⟩ := hW
  have hA : DataW.TrodAll enc Try.prog W 0 (fun _ => true) true Try.f10.params.toList args.toList ds p := hA0
  rw [Try.params10] at hA hval
  obtain ⟨v0, vs0, d0, ds0, p0, q0, hargs, rfl, rfl, h0, r0⟩ := trodAll_cons hA
  obtain ⟨v1, vs1, d1, ds1, p1, q1, rfl, rfl, rfl, h1, r1⟩ := trodAll_cons r0
  obtain ⟨rfl, rfl, rfl⟩ := trodAll_nil r1
  obtain rfl : args = #[v0, v1] := by cases args; simp_all
  obtain ⟨rfl, rfl⟩ := trodVars_none hV
  have k0 := h0
  have lt0 : ∀ x ∈ p0, x.block < W.heap.size := by obtain ⟨m, hm⟩ := k0; exact DataW.trod_lt m _ _ _ hm
  obtain ⟨a0_0, a0_1, rfl, w0_0, w0_1⟩ := open_time (hval 0 25 v0 rfl rfl) h0
  have k1 := h1
  have lt1 : ∀ x ∈ p1, x.block < W.heap.size := by obtain ⟨m, hm⟩ := k1; exact DataW.trod_lt m _ _ _ hm
  obtain ⟨a1_0, a1_1, rfl, w1_0, w1_1⟩ := open_time (hval 1 25 v1 rfl rfl) h1
  clear hA0 hval0 hsz0
  refine (Cp.walk a0_0 a0_1 a1_0 a1_1 W w0_0 w0_1 w1_0 w1_1).mono fun e W' ⟨he, bel⟩ => ?_
  subst he
  exact ⟨_, rfl, _, _, _, [], _, [], hW', trodAll_mk1 (shut_bool Try.underlying4 _), (trodAll_cons_mk (Below.trod laidOut (by kernel_rfl) (of_decide_eq_true (by kernel_rfl)) k0 bel lt0) (trodAll_cons_mk (Below.trod laidOut (by kernel_rfl) (of_decide_eq_true (by kernel_rfl)) k1 bel lt1) trodAll_mk0)), rfl, bel.frame _, fun h => by cases h⟩
theorem over : Rows.exactComparesRow.holds Try.pinned (OpenSpec.ofChange Rows.exactComparesSpec) :=
  OpenClaim.holds_of_wide 10 Try.f10 rfl rfl rfl rfl rfl rfl rfl ⟨rfl, rfl, rfl, rfl, rfl⟩ rfl rfl rfl rfl rfl (by kernel_rfl) Try.func10 (by kernel_rfl)
    (of_decide_eq_true (by kernel_rfl)) (by unfold Func.isWrapper; first | (rw [if_pos (by decide +kernel)]; kernel_rfl) | (rw [if_neg (by decide +kernel)]; exact ⟨rfl, rfl⟩))
    (fun os started H enc _ => lifted os started H enc)
end Go.Proofs.Ytdginjpppgfdaaa.exactComparesRow
namespace Go.Proofs.Ytdginjpppgfdaaa
/-- The row, under a short name, for the claim. -/
theorem exactCompares_holds : Rows.ExactComparesSaid := exactComparesRow.over
#print axioms exactCompares_holds
end Go.Proofs.Ytdginjpppgfdaaa

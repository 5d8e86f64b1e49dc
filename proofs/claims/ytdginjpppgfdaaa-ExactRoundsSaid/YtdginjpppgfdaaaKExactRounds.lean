/-
  ExactRounds: for every input the law returns true. ExactRounds: rounding down is at most one tick less, rounding up at most one more, to the nearest at most half a tick away. Plain laws of the comparison of fractions.
-/
import Derived.Test.YtdginjpppgfdaaaKd
import Derived.Test.YtdginjpppgfdaaaKc
import Derived.Test.YtdginjpppgfdaaaRows
import Derived.WalkKit
import Derived.ProofKit
import Derived.OpenShut
import Derived.ChangeOld
import Derived.Below
import Derived.SizedLaws
import Derived.Carry
namespace Go.Proofs.Ytdginjpppgfdaaa.Lc
open Go.RowKit Go Go.Proofs.Ytdginjpppgfdaaa.Nd Go.Proofs.Ytdginjpppgfdaaa.Ea Go.Proofs.Ytdginjpppgfdaaa.Eb Go.Proofs.Ytdginjpppgfdaaa.Ee Go.Proofs.Ytdginjpppgfdaaa.Ra Go.Proofs.Ytdginjpppgfdaaa.Rb Go.Proofs.Ytdginjpppgfdaaa.Rc Go.Proofs.Ytdginjpppgfdaaa.Rd Go.Proofs.Ytdginjpppgfdaaa.Lb
set_option linter.unusedVariables false
set_option linter.unusedSimpArgs false

theorem cmpI_3 (x y : Int) : cmpI x y = -1 ∧ x < y ∨ cmpI x y = 0 ∧ x = y ∨ cmpI x y = 1 ∧ y < x := by
  unfold cmpI
  rcases Int.lt_trichotomy x y with h | h | h
  · exact .inl ⟨by rw [if_pos h], h⟩
  · exact .inr (.inl ⟨by rw [if_neg (by omega), if_neg (by omega)], h⟩)
  · exact .inr (.inr ⟨by rw [if_neg (by omega), if_pos h], h⟩)
theorem cmpI_of {x y c : Int} : cmpI x y = c ↔ (c = -1 ∧ x < y ∨ c = 0 ∧ x = y ∨ c = 1 ∧ y < x) := by
  rcases cmpI_3 x y with ⟨h, k⟩ | ⟨h, k⟩ | ⟨h, k⟩ <;> rw [h] <;> omega
theorem cmpI_swap (x y : Int) : cmpI y x = -cmpI x y := by
  rw [cmpI_of]
  rcases cmpI_3 x y with ⟨h, k⟩ | ⟨h, k⟩ | ⟨h, k⟩ <;> rw [h] <;> omega
theorem cmpI_le {x y : Int} : cmpI x y ≤ 0 ↔ x ≤ y := by rcases cmpI_3 x y with ⟨h, k⟩ | ⟨h, k⟩ | ⟨h, k⟩ <;> rw [h] <;> omega
theorem cmpI_lt {x y : Int} : cmpI x y < 0 ↔ x < y := by rcases cmpI_3 x y with ⟨h, k⟩ | ⟨h, k⟩ | ⟨h, k⟩ <;> rw [h] <;> omega
theorem cmpI_eq {x y : Int} : cmpI x y = 0 ↔ x = y := by rcases cmpI_3 x y with ⟨h, k⟩ | ⟨h, k⟩ | ⟨h, k⟩ <;> rw [h] <;> omega
theorem cmpI_pos {x y : Int} : 0 < cmpI x y ↔ y < x := by rcases cmpI_3 x y with ⟨h, k⟩ | ⟨h, k⟩ | ⟨h, k⟩ <;> rw [h] <;> omega
theorem cmpI_scale {x y u v M K : Int} (hM : 0 < M) (hK : 0 < K) (h : (x - y) * M = (u - v) * K) : cmpI x y = cmpI u v := by
  rw [cmpI_of]
  rcases cmpI_3 u v with ⟨e, k⟩ | ⟨e, k⟩ | ⟨e, k⟩ <;> rw [e]
  · left
    refine ⟨rfl, Int.lt_of_sub_neg (Int.lt_of_not_ge fun h0 => ?_)⟩
    have h1 := Int.mul_nonneg h0 (Int.le_of_lt hM)
    have h2 : (u - v) * K < 0 := Int.mul_neg_of_neg_of_pos (by omega) hK
    omega
  · right
    left
    refine ⟨rfl, ?_⟩
    subst k
    rw [Int.sub_self, Int.zero_mul] at h
    rcases Int.mul_eq_zero.1 h with h | h <;> omega
  · right
    right
    refine ⟨rfl, Int.lt_of_sub_pos (Int.lt_of_not_ge fun h0 => ?_)⟩
    have h1 : (x - y) * M ≤ 0 := Int.mul_nonpos_of_nonpos_of_nonneg h0 (Int.le_of_lt hM)
    have h2 : 0 < (u - v) * K := Int.mul_pos (by omega) hK
    omega
theorem vCmp_val {na da nb db : Int} (ha : valid na da = true) (hb : valid nb db = true) : vCmp na da nb db = .tuple #[.int .i64 (cmpI (na * db) (nb * da)), .int .i64 0] := by unfold vCmp; rw [ha, hb]; rfl
theorem vCmp_bad {na da nb db : Int} (h : (valid na da && valid nb db) = false) : vCmp na da nb db = .tuple #[.int .i64 0, .int .i64 4] := by unfold vCmp; rw [h]; rfl
theorem cmp_trans {na da nb db nc dc : Int} (ha : 1 ≤ da) (hb : 1 ≤ db) (hc : 1 ≤ dc) : ¬ (cmpI (na * db) (nb * da) ≤ 0 ∧ cmpI (nb * dc) (nc * db) ≤ 0 ∧ (0 < cmpI (na * dc) (nc * da) ∨ cmpI (na * dc) (nc * da) = 0 ∧ (cmpI (na * db) (nb * da) < 0 ∨ cmpI (nb * dc) (nc * db) < 0))) := by
  rw [cmpI_le, cmpI_le, cmpI_pos, cmpI_eq, cmpI_lt, cmpI_lt]
  have e3 : (na * dc - nc * da) * db = (na * db - nb * da) * dc + (nb * dc - nc * db) * da := by grind
  generalize hu : na * db - nb * da = u at *
  generalize hv : nb * dc - nc * db = v at *
  generalize ht : na * dc - nc * da = t at *
  rintro ⟨h1, h2, h3⟩
  have u0 : u * dc ≤ 0 := Int.mul_nonpos_of_nonpos_of_nonneg (by omega) (by omega)
  have v0 : v * da ≤ 0 := Int.mul_nonpos_of_nonpos_of_nonneg (by omega) (by omega)
  rcases h3 with h3 | ⟨h3, h4⟩
  · have : 0 < t * db := Int.mul_pos (by omega) (by omega)
    omega
  · have e0 : t = 0 := by omega
    rw [e0, Int.zero_mul] at e3
    rcases h4 with h4 | h4
    · have : u * dc < 0 := Int.mul_neg_of_neg_of_pos (by omega) (by omega)
      omega
    · have : v * da < 0 := Int.mul_neg_of_neg_of_pos (by omega) (by omega)
      omega
theorem cmp_sums {na da nb db nc dc N D N' D' : Int} (h1 : rAdd na da nc dc = (N, D, 0)) (h2 : rAdd nb db nc dc = (N', D', 0)) : vCmp N D N' D' = .tuple #[.int .i64 (cmpI (na * db) (nb * da)), .int .i64 0] := by
  obtain ⟨va, vc, v, e, _⟩ := rAdd_ok h1
  obtain ⟨vb, _, v', e', _⟩ := rAdd_ok h2
  have qa := valid_bd va
  have qb := valid_bd vb
  have qc := valid_bd vc
  have q := valid_bd v
  have q' := valid_bd v'
  rw [vCmp_val v v', cmpI_scale (u := na * db) (v := nb * da) (M := da * dc * (db * dc)) (K := D * D' * (dc * dc)) (Int.mul_pos (Int.mul_pos (by omega) (by omega)) (Int.mul_pos (by omega) (by omega))) (Int.mul_pos (Int.mul_pos (by omega) (by omega)) (Int.mul_pos (by omega) (by omega)))]
  clear h1 h2 va vb vc v v'
  grind
/-- Two ints, as a call of Cmp or Ticks answers them. -/
def PvP (w : World) (N E : Int) (e : Ending) (w' : World) : Prop := e = .returned (.tuple #[.int .i64 N, .int .i64 E]) ∧ Below w.heap.size w w'
theorem PvP.of {w : World} {v : Value} {N E : Int} {e : Ending} {w' : World} (h : ValP w v e w') (hv : v = .tuple #[.int .i64 N, .int .i64 E]) : PvP w N E e w' := by
  subst hv
  exact h
theorem CmpT_n {n1 d1 n2 d2 N E : Int} (h : vCmp n1 d1 n2 d2 = .tuple #[.int .i64 N, .int .i64 E]) (w : World) : Calls Try.prog 37 #[.agg #[.int .i64 n1, .int .i64 d1], .agg #[.int .i64 n2, .int .i64 d2]] w (PvP w N E) := (Cmp_n n1 d1 n2 d2 w).mono fun e w' hp => PvP.of hp h
end Go.Proofs.Ytdginjpppgfdaaa.Lc

namespace Go.Proofs.Ytdginjpppgfdaaa.Ro
open Go.RowKit Go Go.Proofs.YtdginjpppgfdaaaW.PrintWords Go.Proofs.YtdginjpppgfdaaaW.PrintLast Go.Proofs.YtdginjpppgfdaaaW.PrintMore Go.Proofs.Ytdginjpppgfdaaa.Mn Go.Proofs.Ytdginjpppgfdaaa.Nd Go.Proofs.Ytdginjpppgfdaaa.Ea Go.Proofs.Ytdginjpppgfdaaa.Eb Go.Proofs.Ytdginjpppgfdaaa.Ec Go.Proofs.Ytdginjpppgfdaaa.Ee Go.Proofs.Ytdginjpppgfdaaa.Ra Go.Proofs.Ytdginjpppgfdaaa.Rb Go.Proofs.Ytdginjpppgfdaaa.Rc Go.Proofs.Ytdginjpppgfdaaa.Rd Go.Proofs.Ytdginjpppgfdaaa.Lb Go.Proofs.Ytdginjpppgfdaaa.Lw Go.Proofs.Ytdginjpppgfdaaa.Lc Go.Proofs.Ytdginjpppgfdaaa.La
set_option linter.unusedVariables false
set_option linter.unusedSimpArgs false

theorem TicksT_n {n d s h N E : Int} (hv : vTicks n d s h = .tuple #[.int .i64 N, .int .i64 E]) (w : World) : Calls Try.prog 39 #[.agg #[.int .i64 n, .int .i64 d], .int .i64 s, .int .i64 h] w (PvP w N E) := (Ticks_n n d s h w).mono fun e w' hp => PvP.of hp hv
theorem RescaleT_n {t f s h N E : Int} (hv : vRescale t f s h = .tuple #[.int .i64 N, .int .i64 E]) (w : World) : Calls Try.prog 19 #[.int .i64 t, .int .i64 f, .int .i64 s, .int .i64 h] w (PvP w N E) := (Rescale_n t f s h w).mono fun e w' hp => PvP.of hp hv
theorem FromT_n {t s N D E : Int} (hv : vFrom t s = tv (N, D, E)) (w : World) : Calls Try.prog 17 #[.int .i64 t, .int .i64 s] w (TvP w N D E) := (From_n t s w).mono fun e w' hp => TvP.of hp hv
theorem from_ok {t s : Int} (t0 : -1099511627776 ≤ t) (t1 : t ≤ 1099511627776) (s0 : 1 ≤ s) (s1 : s ≤ 1000000) : vFrom t s = tv (lowN t s, lowD t s, 0) ∧ valid (lowN t s) (lowD t s) = true := by
  refine ⟨?_, low_valid s0 (by omega) (by omega) (by omega)⟩
  unfold vFrom
  have h1 : isTicks t = true := by unfold isTicks; simp; omega
  have h2 : isScale s = true := by unfold isScale; simp; omega
  rw [h1, h2]
  rfl
theorem ticks_of {n d s h : Int} (hv : valid n d = true) (s0 : 1 ≤ s) (s1 : s ≤ 1000000) (hh : isHow h = true) : vTicks n d s h = .tuple #[.int .i64 (if big (rnd h (n * s) d) then 0 else rnd h (n * s) d), .int .i64 (if big (rnd h (n * s) d) then 2 else 0)] := by
  have h2 : isScale s = true := by unfold isScale; simp; omega
  unfold vTicks
  rw [hv, h2, hh]
  simp only [if_true]
  cases big (rnd h (n * s) d) <;> rfl
/-- A time against ticks at a scale. -/
theorem cmp_low {t s n d : Int} (s0 : 1 ≤ s) (d0 : 1 ≤ d) : cmpI (lowN t s * d) (n * lowD t s) = cmpI (t * d) (n * s) := by
  have e := low_eq (n := t) s0
  have p := lowD_pos (n := t) s0
  refine cmpI_scale (M := s) (K := lowD t s) (by omega) (by omega) ?_
  generalize lowN t s = N at *
  generalize lowD t s = D at *
  grind
theorem cmp_low' {t s n d : Int} (s0 : 1 ≤ s) (d0 : 1 ≤ d) : cmpI (n * lowD t s) (lowN t s * d) = cmpI (n * s) (t * d) := by
  rw [cmpI_swap (lowN t s * d), cmp_low s0 d0, cmpI_swap (t * d)]
theorem rnd0 (q d : Int) : rnd 0 q d = q / d := by unfold rnd; rfl
theorem rnd1 (q d : Int) : rnd 1 q d = (q + d - 1) / d := by unfold rnd; rfl
theorem rnd2 (q d : Int) : rnd 2 q d = (q * 2 + d) / (d * 2) := by unfold rnd; rfl
theorem div_uniq {a b q r : Int} (hb : 0 < b) (h : a = q * b + r) (h0 : 0 ≤ r) (h1 : r < b) : a / b = q := by
  rw [h, Int.add_comm, Int.add_mul_ediv_right _ _ (by omega), Int.ediv_eq_zero_of_lt h0 h1]
  omega
/-- The three roundings, and how a number of halves stands to what is rounded. -/
theorem three {Q d : Int} (hd : 1 ≤ d) : ∃ q, rnd 0 Q d = q ∧ cmpI Q ((q + 1) * d) = -1 ∧
    ((cmpI (q * d) Q = 0 ∧ rnd 1 Q d = q ∧ rnd 2 Q d = q ∧ cmpI (Q * 2) ((2 * q + 1) * d) = -1) ∨
     (cmpI (q * d) Q = -1 ∧ rnd 1 Q d = q + 1 ∧ rnd 2 Q d = q ∧ cmpI (Q * 2) ((2 * q + 1) * d) = -1) ∨
     (cmpI (q * d) Q = -1 ∧ rnd 1 Q d = q + 1 ∧ rnd 2 Q d = q + 1 ∧ (cmpI (Q * 2) ((2 * q + 1) * d) = 0 ∨ cmpI (Q * 2) ((2 * q + 1) * d) = 1))) := by
  have h1 := Int.mul_ediv_add_emod Q d
  have h2 := Int.emod_nonneg Q (show d ≠ 0 by omega)
  have h3 := Int.emod_lt_of_pos Q (show 0 < d by omega)
  rw [rnd0, rnd1, rnd2]
  generalize Q / d = q at *
  generalize Q % d = r at *
  have e0 : Q = q * d + r := by rw [← h1, Int.mul_comm]
  have e1 : (q + 1) * d = q * d + d := by rw [Int.add_mul]; omega
  have e2 : (2 * q + 1) * d = 2 * (q * d) + d := by rw [Int.add_mul, Int.mul_assoc]; omega
  refine ⟨q, rfl, cmpI_of.2 (.inl ⟨rfl, by rw [e1]; omega⟩), ?_⟩
  rw [e2]
  have e3 : q * (d * 2) = 2 * (q * d) := by grind
  generalize hX : q * d = X at *
  by_cases r0 : r = 0
  · left
    refine ⟨cmpI_of.2 (by omega), div_uniq (r := d - 1) (by omega) (by rw [hX]; omega) (by omega) (by omega), div_uniq (r := d) (by omega) (by rw [e3]; omega) (by omega) (by omega), cmpI_of.2 (by omega)⟩
  · right
    have u : (Q + d - 1) / d = q + 1 := div_uniq (r := r - 1) (by omega) (by rw [Int.add_mul, hX]; omega) (by omega) (by omega)
    by_cases rh : 2 * r < d
    · left
      exact ⟨cmpI_of.2 (by omega), u, div_uniq (r := 2 * r + d) (by omega) (by rw [e3]; omega) (by omega) (by omega), cmpI_of.2 (by omega)⟩
    · right
      refine ⟨cmpI_of.2 (by omega), u, div_uniq (r := 2 * r - d) (by omega) (by rw [Int.add_mul, e3]; omega) (by omega) (by omega), ?_⟩
      rcases cmpI_3 (Q * 2) (2 * X + d) with ⟨h, k⟩ | ⟨h, k⟩ | ⟨h, k⟩
      · omega
      · exact .inl h
      · exact .inr h
theorem middle {q : Int} (q0 : -549755813887 ≤ q) (q1 : q ≤ 549755813887) : vRescale (2 * q + 1) 2 1 0 = .tuple #[.int .i64 q, .int .i64 0] := by
  have h1 : isTicks (2 * q + 1) = true := by unfold isTicks; simp; omega
  have h2 : isScale 2 = true := rfl
  have hv : valid (lowN (2 * q + 1) 2) (lowD (2 * q + 1) 2) = true := low_valid (by omega) (by omega) (by omega) (by omega)
  unfold vRescale
  rw [h1, h2]
  simp only [Bool.and_self, if_true]
  rw [ticks_of hv (by omega) (by omega) rfl, rnd0]
  obtain ⟨g, hg, e1, e2, e3⟩ := low_spec (2 * q + 1) 2 (by omega)
  have hq : lowN (2 * q + 1) 2 * 1 / lowD (2 * q + 1) 2 = q := by
    have h3 : (2 * q + 1) / 2 = q := by omega
    rw [Int.mul_one]
    generalize lowN (2 * q + 1) 2 = N at *
    generalize lowD (2 * q + 1) 2 = D at *
    rw [← h3, e1, e2, Int.mul_ediv_mul_of_pos_left _ _ (by omega)]
  rw [hq]
  have : big q = false := by unfold big; simp; omega
  rw [this]
  rfl
theorem big_no {x : Int} (h : big x = false) : -1099511627776 ≤ x ∧ x ≤ 1099511627776 := by
  unfold big at h
  simp at h
  omega
set_option maxHeartbeats 64000000 in
set_option maxRecDepth 100000 in
theorem walk_out (n d s : Int) (w : World) (hg : ¬ (valid n d = true ∧ 1 ≤ s ∧ s ≤ 1000000)) :
    Calls Try.prog 12 #[.agg #[.int .i64 n, .int .i64 d], .int .i64 s] w (fun e w' => e = .returned (.bool true) ∧ Below w.heap.size w w') := by
  have hu := Try.underlying25
  go_enter Try.func12, Try.ntmps12
  go_wp2_with fail
  refine (Valid_n n d _).mono ?_
  rintro e w1 ⟨rfl, hb⟩
  have HS1 := Aside0.mk (St.call ((St.start w).box (n) (d) (g := w.heap.size) (by simp)) hb)
  clear hb
  cases hv : valid n d with
  | false =>
    go_wp2_with fail
    refine (awake_n _).mono ?_
    rintro e wz ⟨rfl, hb⟩
    go_wp2_with fail
    go_ret
    exact ⟨rfl, (St.call (HS1.out) hb).b⟩
  | true =>
    by_cases s0 : s < 1
    ·
      go_wp2_with fail
      refine (awake_n _).mono ?_
      rintro e wz ⟨rfl, hb⟩
      go_wp2_with fail
      go_ret
      exact ⟨rfl, (St.call (HS1.out) hb).b⟩
    ·
      have s1 : 1000000 < s := by rw [hv] at hg; simp at hg; omega
      clear hg
      go_wp2_with fail
      refine (awake_n _).mono ?_
      rintro e wz ⟨rfl, hb⟩
      go_wp2_with fail
      go_ret
      exact ⟨rfl, (St.call (HS1.out) hb).b⟩
set_option maxHeartbeats 64000000 in
set_option maxRecDepth 100000 in
/-- What the three calls of Ticks answer, and what follows when one of them errs, or the ticks are the greatest. -/
theorem walk_err (n d s N0 E0 N1 E1 N2 E2 : Int) (w : World) (hv : valid n d = true) (s0 : 1 ≤ s) (s1 : s ≤ 1000000) (h0 : vTicks n d s 0 = .tuple #[.int .i64 N0, .int .i64 E0]) (h1 : vTicks n d s 1 = .tuple #[.int .i64 N1, .int .i64 E1]) (h2 : vTicks n d s 2 = .tuple #[.int .i64 N2, .int .i64 E2])
    (he : (E0 != 0) = true ∨ ((E0 != 0) = false ∧ (E1 != 0) = true) ∨ ((E0 != 0) = false ∧ (E1 != 0) = false ∧ (E2 != 0) = true) ∨ ((E0 != 0) = false ∧ (E1 != 0) = false ∧ (E2 != 0) = false ∧ (N0 == 1099511627776) = true)) :
    Calls Try.prog 12 #[.agg #[.int .i64 n, .int .i64 d], .int .i64 s] w (fun e w' => e = .returned (.bool true) ∧ Below w.heap.size w w') := by
  have hu := Try.underlying25
  have HC := Aside0.mk (And.intro (TicksT_n h0) (And.intro (TicksT_n h1) (TicksT_n h2)))
  clear h0 h1 h2
  go_enter Try.func12, Try.ntmps12
  go_wp2_with fail
  refine (Valid_n n d _).mono ?_
  rintro e w1 ⟨rfl, hb⟩
  have HS1 := Aside0.mk (St.call ((St.start w).box (n) (d) (g := w.heap.size) (by simp)) hb)
  clear hb
  rw [hv]
  obtain ⟨q_t0, q_t1⟩ := HS1.out.get (g := w.heap.size) (n := n) (d := d) (by simp)
  have q_t2 := HS1.out.lt (g := w.heap.size) (n := n) (d := d) (by simp)
  go_wp2_with fail
  refine (HC.out.1 _).mono ?_
  rintro e w2 ⟨rfl, hb⟩
  have HS2 := Aside0.mk (St.call (HS1.out) hb)
  clear hb
  clear q_t0 q_t1 q_t2
  obtain ⟨q_t0, q_t1⟩ := HS2.out.get (g := w.heap.size) (n := n) (d := d) (by simp)
  have q_t2 := HS2.out.lt (g := w.heap.size) (n := n) (d := d) (by simp)
  go_wp2_with fail
  refine (HC.out.2.1 _).mono ?_
  rintro e w3 ⟨rfl, hb⟩
  have HS3 := Aside0.mk (St.call (HS2.out) hb)
  clear hb
  clear q_t0 q_t1 q_t2
  obtain ⟨q_t0, q_t1⟩ := HS3.out.get (g := w.heap.size) (n := n) (d := d) (by simp)
  have q_t2 := HS3.out.lt (g := w.heap.size) (n := n) (d := d) (by simp)
  go_wp2_with fail
  refine (HC.out.2.2 _).mono ?_
  rintro e w4 ⟨rfl, hb⟩
  have HS4 := Aside0.mk (St.call (HS3.out) hb)
  clear hb
  clear q_t0 q_t1 q_t2
  rcases he with k0 | ⟨k0, k1⟩ | ⟨k0, k1, k2⟩ | ⟨k0, k1, k2, k3⟩
  all_goals
    go_wp2_with fail
    refine (awake_n _).mono ?_
    rintro e wz ⟨rfl, hb⟩
    go_wp2_with fail
    go_ret
    exact ⟨rfl, (St.call (HS4.out) hb).b⟩
set_option maxHeartbeats 64000000 in
set_option maxRecDepth 100000 in
theorem walk_main (n d s q u v x z : Int) (w : World) (hv : valid n d = true) (s0 : 1 ≤ s) (s1 : s ≤ 1000000) (q0 : -1099511627776 ≤ q) (q1 : q < 1099511627776) (h0 : vTicks n d s 0 = .tuple #[.int .i64 q, .int .i64 0]) (h1 : vTicks n d s 1 = .tuple #[.int .i64 u, .int .i64 0]) (h2 : vTicks n d s 2 = .tuple #[.int .i64 v, .int .i64 0])
    (hy : cmpI (n * s) ((q + 1) * d) = -1) (hx : cmpI (q * d) (n * s) = x) (hz : cmpI (n * s * 2) ((2 * q + 1) * d) = z)
    (he : (0 = x ∧ q = u ∧ q = v ∧ -1 = z) ∨ (-1 = x ∧ q + 1 = u ∧ q = v ∧ -1 = z) ∨ (-1 = x ∧ q + 1 = u ∧ q + 1 = v ∧ (0 = z ∨ 1 = z))) :
    Calls Try.prog 12 #[.agg #[.int .i64 n, .int .i64 d], .int .i64 s] w (fun e w' => e = .returned (.bool true) ∧ Below w.heap.size w w') := by
  have hu := Try.underlying25
  have qd := valid_bd hv
  obtain ⟨f1, v1⟩ := from_ok q0 (by omega) s0 s1
  obtain ⟨f2, v2⟩ := from_ok (t := q + 1) (by omega) (by omega) s0 s1
  have c1 : vCmp (lowN q s) (lowD q s) n d = .tuple #[.int .i64 x, .int .i64 0] := by rw [vCmp_val v1 hv, cmp_low s0 qd.1, hx]
  have c2 : vCmp n d (lowN (q + 1) s) (lowD (q + 1) s) = .tuple #[.int .i64 (-1), .int .i64 0] := by rw [vCmp_val hv v2, cmp_low' s0 qd.1, hy]
  have m1 : -549755813887 ≤ q → q ≤ 549755813887 → vRescale (2 * q + 1) 2 1 0 = .tuple #[.int .i64 q, .int .i64 0] := middle
  have g1 : -549755813887 ≤ q → q ≤ 549755813887 → 2 * s ≤ 1000000 → vFrom (2 * q + 1) (2 * s) = tv (lowN (2 * q + 1) (2 * s), lowD (2 * q + 1) (2 * s), 0) ∧ vCmp n d (lowN (2 * q + 1) (2 * s)) (lowD (2 * q + 1) (2 * s)) = .tuple #[.int .i64 z, .int .i64 0] := by
    intro a b c
    obtain ⟨f3, v3⟩ := from_ok (t := 2 * q + 1) (s := 2 * s) (by omega) (by omega) (by omega) c
    refine ⟨f3, ?_⟩
    rw [vCmp_val hv v3, cmp_low' (by omega) qd.1, show n * (2 * s) = n * s * 2 by rw [Int.mul_comm 2 s, Int.mul_assoc], hz]
  have HC := Aside0.mk (And.intro (TicksT_n h0) (And.intro (TicksT_n h1) (And.intro (TicksT_n h2) (And.intro (And.intro (FromT_n f1) (FromT_n f2)) (And.intro (And.intro (CmpT_n c1) (CmpT_n c2)) (And.intro m1 g1))))))
  clear h0 h1 h2 f1 f2 v1 v2 c1 c2 m1 g1 hy hx hz qd
  generalize lowN q s = NA at *
  generalize lowD q s = DA at *
  generalize lowN (q + 1) s = NB at *
  generalize lowD (q + 1) s = DB at *
  generalize lowN (2 * q + 1) (2 * s) = NH at *
  generalize lowD (2 * q + 1) (2 * s) = DH at *
  rcases he with ⟨rfl, rfl, rfl, rfl⟩ | ⟨rfl, rfl, rfl, rfl⟩ | ⟨rfl, rfl, rfl, rfl | rfl⟩
  all_goals
    go_enter Try.func12, Try.ntmps12
    go_wp2_with fail
    refine (Valid_n n d _).mono ?_
    rintro e w1 ⟨rfl, hb⟩
    have HS1 := Aside0.mk (St.call ((St.start w).box (n) (d) (g := w.heap.size) (by simp)) hb)
    clear hb
    rw [hv]
    obtain ⟨q_t0, q_t1⟩ := HS1.out.get (g := w.heap.size) (n := n) (d := d) (by simp)
    have q_t2 := HS1.out.lt (g := w.heap.size) (n := n) (d := d) (by simp)
    go_wp2_with fail
    refine (HC.out.1 _).mono ?_
    rintro e w2 ⟨rfl, hb⟩
    have HS2 := Aside0.mk (St.call (HS1.out) hb)
    clear hb
    clear q_t0 q_t1 q_t2
    obtain ⟨q_t0, q_t1⟩ := HS2.out.get (g := w.heap.size) (n := n) (d := d) (by simp)
    have q_t2 := HS2.out.lt (g := w.heap.size) (n := n) (d := d) (by simp)
    go_wp2_with fail
    refine (HC.out.2.1 _).mono ?_
    rintro e w3 ⟨rfl, hb⟩
    have HS3 := Aside0.mk (St.call (HS2.out) hb)
    clear hb
    clear q_t0 q_t1 q_t2
    obtain ⟨q_t0, q_t1⟩ := HS3.out.get (g := w.heap.size) (n := n) (d := d) (by simp)
    have q_t2 := HS3.out.lt (g := w.heap.size) (n := n) (d := d) (by simp)
    go_wp2_with fail
    refine (HC.out.2.2.1 _).mono ?_
    rintro e w4 ⟨rfl, hb⟩
    have HS4 := Aside0.mk (St.call (HS3.out) hb)
    clear hb
    clear q_t0 q_t1 q_t2
    go_wp2_with fail
    refine (HC.out.2.2.2.1.1 _).mono ?_
    rintro e w5 ⟨rfl, hb⟩
    have HS5 := Aside0.mk (St.call (HS4.out) hb)
    clear hb
    go_wp2_with fail
    refine (HC.out.2.2.2.1.2 _).mono ?_
    rintro e w6 ⟨rfl, hb⟩
    have HS6 := Aside0.mk (St.call ((HS5.out).box (NA) (DA) (g := w5.heap.size) (by simp)) hb)
    clear hb
    obtain ⟨q_A0, q_A1⟩ := HS6.out.get (g := w5.heap.size) (n := NA) (d := DA) (by simp)
    have q_A2 := HS6.out.lt (g := w5.heap.size) (n := NA) (d := DA) (by simp)
    obtain ⟨q_t0, q_t1⟩ := HS6.out.get (g := w.heap.size) (n := n) (d := d) (by simp)
    have q_t2 := HS6.out.lt (g := w.heap.size) (n := n) (d := d) (by simp)
    go_wp2_with fail
    refine (HC.out.2.2.2.2.1.1 _).mono ?_
    rintro e w7 ⟨rfl, hb⟩
    have HS7 := Aside0.mk (St.call ((HS6.out).box (NB) (DB) (g := w6.heap.size) (by simp)) hb)
    clear hb
    clear q_A0 q_A1 q_A2 q_t0 q_t1 q_t2
    obtain ⟨q_t0, q_t1⟩ := HS7.out.get (g := w.heap.size) (n := n) (d := d) (by simp)
    have q_t2 := HS7.out.lt (g := w.heap.size) (n := n) (d := d) (by simp)
    obtain ⟨q_B0, q_B1⟩ := HS7.out.get (g := w6.heap.size) (n := NB) (d := DB) (by simp)
    have q_B2 := HS7.out.lt (g := w6.heap.size) (n := NB) (d := DB) (by simp)
    go_wp2_with fail
    refine (HC.out.2.2.2.2.1.2 _).mono ?_
    rintro e w8 ⟨rfl, hb⟩
    have HS8 := Aside0.mk (St.call (HS7.out) hb)
    clear hb
    clear q_t0 q_t1 q_t2 q_B0 q_B1 q_B2
    by_cases r0 : 549755813887 < q
    ·
      go_wp2_with fail
      refine (awake_n _).mono ?_
      rintro e wz ⟨rfl, hb⟩
      go_wp2_with fail
      go_ret
      exact ⟨rfl, (St.call (HS8.out) hb).b⟩
    ·
      by_cases r1 : q < -549755813887
      ·
        go_wp2_with fail
        refine (awake_n _).mono ?_
        rintro e wz ⟨rfl, hb⟩
        go_wp2_with fail
        go_ret
        exact ⟨rfl, (St.call (HS8.out) hb).b⟩
      ·
        have HM := Aside0.mk (RescaleT_n (HC.out.2.2.2.2.2.1 (by omega) (by omega)))
        go_wp2_with fail
        refine (HM.out _).mono ?_
        rintro e w9 ⟨rfl, hb⟩
        have HS9 := Aside0.mk (St.call (HS8.out) hb)
        clear hb
        by_cases r2 : 1000000 < 2 * s
        ·
          go_wp2_with fail
          refine (awake_n _).mono ?_
          rintro e wz ⟨rfl, hb⟩
          go_wp2_with fail
          go_ret
          exact ⟨rfl, (St.call (HS9.out) hb).b⟩
        ·
          obtain ⟨f3, c3⟩ := HC.out.2.2.2.2.2.2 (by omega) (by omega) (by omega)
          have HN := Aside0.mk (And.intro (FromT_n f3) (CmpT_n c3))
          clear f3 c3
          have kq : (q == q + 1) = false := beq_eq_false_iff_ne.2 (by omega)
          obtain ⟨q_t0, q_t1⟩ := HS9.out.get (g := w.heap.size) (n := n) (d := d) (by simp)
          have q_t2 := HS9.out.lt (g := w.heap.size) (n := n) (d := d) (by simp)
          go_wp2_with fail
          refine (HN.out.1 _).mono ?_
          rintro e w10 ⟨rfl, hb⟩
          have HS10 := Aside0.mk (St.call (HS9.out) hb)
          clear hb
          clear q_t0 q_t1 q_t2
          obtain ⟨q_t0, q_t1⟩ := HS10.out.get (g := w.heap.size) (n := n) (d := d) (by simp)
          have q_t2 := HS10.out.lt (g := w.heap.size) (n := n) (d := d) (by simp)
          go_wp2_with fail
          refine (HN.out.2 _).mono ?_
          rintro e w11 ⟨rfl, hb⟩
          have HS11 := Aside0.mk (St.call ((HS10.out).box (NH) (DH) (g := w10.heap.size) (by simp)) hb)
          clear hb
          clear q_t0 q_t1 q_t2
          go_wp2_with fail
          refine (awake_n _).mono ?_
          rintro e wz ⟨rfl, hb⟩
          go_wp2_with fail
          go_ret
          exact ⟨rfl, (St.call (HS11.out) hb).b⟩
theorem walk (n d s : Int) (w : World) (_ : (Lit.int .i64 n).wf = true) (_ : (Lit.int .i64 d).wf = true) (_ : (Lit.int .i64 s).wf = true) :
    Calls Try.prog 12 #[.agg #[.int .i64 n, .int .i64 d], .int .i64 s] w (fun e w' => e = .returned (.bool true) ∧ Below w.heap.size w w') := by
  by_cases hg : valid n d = true ∧ 1 ≤ s ∧ s ≤ 1000000
  · obtain ⟨hv, s0, s1⟩ := hg
    have qd := valid_bd hv
    obtain ⟨q, hq, hy, h3⟩ := three (Q := n * s) qd.1
    have t0 := ticks_of hv s0 s1 (h := 0) rfl
    have t1 := ticks_of hv s0 s1 (h := 1) rfl
    have t2 := ticks_of hv s0 s1 (h := 2) rfl
    rw [hq] at t0
    generalize rnd 1 (n * s) d = u at *
    generalize rnd 2 (n * s) d = v at *
    cases b0 : big q with
    | true =>
      rw [b0] at t0
      exact walk_err n d s _ _ _ _ _ _ w hv s0 s1 t0 t1 t2 (.inl rfl)
    | false =>
      rw [b0] at t0
      cases b1 : big u with
      | true =>
        rw [b1] at t1
        exact walk_err n d s _ _ _ _ _ _ w hv s0 s1 t0 t1 t2 (.inr (.inl ⟨rfl, rfl⟩))
      | false =>
        rw [b1] at t1
        cases b2 : big v with
        | true =>
          rw [b2] at t2
          exact walk_err n d s _ _ _ _ _ _ w hv s0 s1 t0 t1 t2 (.inr (.inr (.inl ⟨rfl, rfl, rfl⟩)))
        | false =>
          rw [b2] at t2
          by_cases hm : q = 1099511627776
          · exact walk_err n d s _ _ _ _ _ _ w hv s0 s1 t0 t1 t2 (.inr (.inr (.inr ⟨rfl, rfl, rfl, by simp [hm]⟩)))
          · have hb := big_no b0
            exact walk_main n d s q u v _ _ w hv s0 s1 hb.1 (by omega) t0 t1 t2 hy rfl rfl (by
              rcases h3 with ⟨a, b, c, e⟩ | ⟨a, b, c, e⟩ | ⟨a, b, c, e⟩
              · exact .inl ⟨a.symm, b.symm, c.symm, e.symm⟩
              · exact .inr (.inl ⟨a.symm, b.symm, c.symm, e.symm⟩)
              · exact .inr (.inr ⟨a.symm, b.symm, c.symm, e.elim (fun h => .inl h.symm) (fun h => .inr h.symm)⟩))
  · exact walk_out n d s w hg
end Go.Proofs.Ytdginjpppgfdaaa.Ro

namespace Go.Proofs.Ytdginjpppgfdaaa.exactRoundsRow
open Go.ChangeShapes Go.WideShapes Go.ChangeAt Go.RowKit Go.Proofs.Ytdginjpppgfdaaa.O5
set_option linter.unusedVariables false
set_option maxRecDepth 100000 in
theorem lifted (os : Os) (started : os.Started) (H : Type) (enc : TypeId × Value → H) :
    ReturnsInHanded {} Try.checked os 12 .any (Rows.exactRoundsSpec.pre6 enc Try.prog Try.f12 Rows.exactRoundsRow.domain false) (Rows.exactRoundsSpec.post enc Try.prog Try.f12 false true false false) := by
  refine returnsInHanded_of_change_sized (C := Try.checked) own started (by kernel_rfl) Try.func12
    (ChangeSpec.witness6 (enc := enc) (C := Try.checked) false ⟨#[], #[.agg #[.int .i64 0, .int .i64 0], .int .i64 0], []⟩ 8 (by kernel_rfl) (by kernel_rfl) (by kernel_rfl) (by kernel_rfl)) ?_
  intro W base args ds gs before hval0 hW hcnd hsz0 _
  have hval : ∀ (j : Nat) t v, Try.f12.params[j]? = some t → args[j]? = some v → Value.okWide Try.prog W .any base t v := hval0
  have hW' := hW
  obtain ⟨p, q, hA0, hV, rfl, hfz, hnd⟩ := hW
  have hA : DataW.TrodAll enc Try.prog W 0 (fun _ => true) true Try.f12.params.toList args.toList ds p := hA0
  rw [Try.params12] at hA hval
  obtain ⟨v0, vs0, d0, ds0, p0, q0, hargs, rfl, rfl, h0, r0⟩ := trodAll_cons hA
  obtain ⟨v1, vs1, d1, ds1, p1, q1, rfl, rfl, rfl, h1, r1⟩ := trodAll_cons r0
  obtain ⟨rfl, rfl, rfl⟩ := trodAll_nil r1
  obtain rfl : args = #[v0, v1] := by cases args; simp_all
  obtain ⟨rfl, rfl⟩ := trodVars_none hV
  have k0 := h0
  have lt0 : ∀ x ∈ p0, x.block < W.heap.size := by obtain ⟨m, hm⟩ := k0; exact DataW.trod_lt m _ _ _ hm
  obtain ⟨a0_0, a0_1, rfl, w0_0, w0_1⟩ := open_time (hval 0 25 v0 rfl rfl) h0
  obtain ⟨a1, rfl, rfl, rfl, w1⟩ := open_int Try.underlying3 (hval 1 3 v1 rfl rfl) h1
  clear hA0 hval0 hsz0
  refine (Ro.walk a0_0 a0_1 a1 W w0_0 w0_1 w1).mono fun e W' ⟨he, bel⟩ => ?_
  subst he
  exact ⟨_, rfl, _, _, _, [], _, [], hW', trodAll_mk1 (shut_bool Try.underlying4 _), (trodAll_cons_mk (Below.trod laidOut (by kernel_rfl) (of_decide_eq_true (by kernel_rfl)) k0 bel lt0) (trodAll_cons_mk (shut_int Try.underlying3 w1) trodAll_mk0)), rfl, bel.frame _, fun h => by cases h⟩
theorem over : Rows.exactRoundsRow.holds Try.pinned (OpenSpec.ofChange Rows.exactRoundsSpec) :=
  OpenClaim.holds_of_wide 12 Try.f12 rfl rfl rfl rfl rfl rfl rfl ⟨rfl, rfl, rfl, rfl, rfl⟩ rfl rfl rfl rfl rfl (by kernel_rfl) Try.func12 (by kernel_rfl)
    (of_decide_eq_true (by kernel_rfl)) (by unfold Func.isWrapper; first | (rw [if_pos (by decide +kernel)]; kernel_rfl) | (rw [if_neg (by decide +kernel)]; exact ⟨rfl, rfl⟩))
    (fun os started H enc _ => lifted os started H enc)
end Go.Proofs.Ytdginjpppgfdaaa.exactRoundsRow
namespace Go.Proofs.Ytdginjpppgfdaaa
/-- The row, under a short name, for the claim. -/
theorem exactRounds_holds : Rows.ExactRoundsSaid := exactRoundsRow.over
#print axioms exactRounds_holds
end Go.Proofs.Ytdginjpppgfdaaa

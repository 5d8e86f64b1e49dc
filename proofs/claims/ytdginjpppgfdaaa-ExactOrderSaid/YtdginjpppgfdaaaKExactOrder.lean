/-
  ExactOrder: for every input the law returns true. ExactOrder: the comparison is an order that goes along with sums. Plain laws of the comparison of fractions.
-/
import Derived.Test.YtdginjpppgfdaaaKd
import Derived.Deep.DeepCutAuto
import Derived.Test.YtdginjpppgfdaaaRows
import Derived.Test.YtdginjpppgfdaaaKc
import Derived.WalkKit
import Derived.ProofKit
import Derived.OpenShut
import Derived.ChangeOld
import Derived.Below
import Derived.SizedLaws
import Derived.Carry
namespace Go.Proofs.Ytdginjpppgfdaaa.Lc
open Go.RowKit Go Go.Proofs.Ytdginjpppgfdaaa.Nd Go.Proofs.Ytdginjpppgfdaaa.Ea Go.Proofs.Ytdginjpppgfdaaa.Eb Go.Proofs.Ytdginjpppgfdaaa.Ee Go.Proofs.Ytdginjpppgfdaaa.Ra Go.Proofs.Ytdginjpppgfdaaa.Rb Go.Proofs.Ytdginjpppgfdaaa.Rc Go.Proofs.Ytdginjpppgfdaaa.Rd Go.Proofs.Ytdginjpppgfdaaa.Lb
set_option linter.unusedVariables false
set_option linter.unusedSimpArgs false

theorem cmpI_3 (x y : Int) : cmpI x y = -1 ∧ x < y ∨ cmpI x y = 0 ∧ x = y ∨ cmpI x y = 1 ∧ y < x := by
  unfold cmpI
  rcases Int.lt_trichotomy x y with h | h | h
  · exact .inl ⟨by rw [if_pos h], h⟩
  · exact .inr (.inl ⟨by rw [if_neg (by omega), if_neg (by omega)], h⟩)
  · exact .inr (.inr ⟨by rw [if_neg (by omega), if_pos h], h⟩)
theorem cmpI_of {x y c : Int} : cmpI x y = c ↔ (c = -1 ∧ x < y ∨ c = 0 ∧ x = y ∨ c = 1 ∧ y < x) := by
  rcases cmpI_3 x y with ⟨h, k⟩ | ⟨h, k⟩ | ⟨h, k⟩ <;> rw [h] <;> omega
theorem cmpI_swap (x y : Int) : cmpI y x = -cmpI x y := by
  rw [cmpI_of]
  rcases cmpI_3 x y with ⟨h, k⟩ | ⟨h, k⟩ | ⟨h, k⟩ <;> rw [h] <;> omega
theorem cmpI_le {x y : Int} : cmpI x y ≤ 0 ↔ x ≤ y := by rcases cmpI_3 x y with ⟨h, k⟩ | ⟨h, k⟩ | ⟨h, k⟩ <;> rw [h] <;> omega
theorem cmpI_lt {x y : Int} : cmpI x y < 0 ↔ x < y := by rcases cmpI_3 x y with ⟨h, k⟩ | ⟨h, k⟩ | ⟨h, k⟩ <;> rw [h] <;> omega
theorem cmpI_eq {x y : Int} : cmpI x y = 0 ↔ x = y := by rcases cmpI_3 x y with ⟨h, k⟩ | ⟨h, k⟩ | ⟨h, k⟩ <;> rw [h] <;> omega
theorem cmpI_pos {x y : Int} : 0 < cmpI x y ↔ y < x := by rcases cmpI_3 x y with ⟨h, k⟩ | ⟨h, k⟩ | ⟨h, k⟩ <;> rw [h] <;> omega
theorem cmpI_scale {x y u v M K : Int} (hM : 0 < M) (hK : 0 < K) (h : (x - y) * M = (u - v) * K) : cmpI x y = cmpI u v := by
  rw [cmpI_of]
  rcases cmpI_3 u v with ⟨e, k⟩ | ⟨e, k⟩ | ⟨e, k⟩ <;> rw [e]
  · left
    refine ⟨rfl, Int.lt_of_sub_neg (Int.lt_of_not_ge fun h0 => ?_)⟩
    have h1 := Int.mul_nonneg h0 (Int.le_of_lt hM)
    have h2 : (u - v) * K < 0 := Int.mul_neg_of_neg_of_pos (by omega) hK
    omega
  · right
    left
    refine ⟨rfl, ?_⟩
    subst k
    rw [Int.sub_self, Int.zero_mul] at h
    rcases Int.mul_eq_zero.1 h with h | h <;> omega
  · right
    right
    refine ⟨rfl, Int.lt_of_sub_pos (Int.lt_of_not_ge fun h0 => ?_)⟩
    have h1 : (x - y) * M ≤ 0 := Int.mul_nonpos_of_nonpos_of_nonneg h0 (Int.le_of_lt hM)
    have h2 : 0 < (u - v) * K := Int.mul_pos (by omega) hK
    omega
theorem vCmp_val {na da nb db : Int} (ha : valid na da = true) (hb : valid nb db = true) : vCmp na da nb db = .tuple #[.int .i64 (cmpI (na * db) (nb * da)), .int .i64 0] := by unfold vCmp; rw [ha, hb]; rfl
theorem vCmp_bad {na da nb db : Int} (h : (valid na da && valid nb db) = false) : vCmp na da nb db = .tuple #[.int .i64 0, .int .i64 4] := by unfold vCmp; rw [h]; rfl
theorem cmp_trans {na da nb db nc dc : Int} (ha : 1 ≤ da) (hb : 1 ≤ db) (hc : 1 ≤ dc) : ¬ (cmpI (na * db) (nb * da) ≤ 0 ∧ cmpI (nb * dc) (nc * db) ≤ 0 ∧ (0 < cmpI (na * dc) (nc * da) ∨ cmpI (na * dc) (nc * da) = 0 ∧ (cmpI (na * db) (nb * da) < 0 ∨ cmpI (nb * dc) (nc * db) < 0))) := by
  rw [cmpI_le, cmpI_le, cmpI_pos, cmpI_eq, cmpI_lt, cmpI_lt]
  have e3 : (na * dc - nc * da) * db = (na * db - nb * da) * dc + (nb * dc - nc * db) * da := by grind
  generalize hu : na * db - nb * da = u at *
  generalize hv : nb * dc - nc * db = v at *
  generalize ht : na * dc - nc * da = t at *
  rintro ⟨h1, h2, h3⟩
  have u0 : u * dc ≤ 0 := Int.mul_nonpos_of_nonpos_of_nonneg (by omega) (by omega)
  have v0 : v * da ≤ 0 := Int.mul_nonpos_of_nonpos_of_nonneg (by omega) (by omega)
  rcases h3 with h3 | ⟨h3, h4⟩
  · have : 0 < t * db := Int.mul_pos (by omega) (by omega)
    omega
  · have e0 : t = 0 := by omega
    rw [e0, Int.zero_mul] at e3
    rcases h4 with h4 | h4
    · have : u * dc < 0 := Int.mul_neg_of_neg_of_pos (by omega) (by omega)
      omega
    · have : v * da < 0 := Int.mul_neg_of_neg_of_pos (by omega) (by omega)
      omega
theorem cmp_sums {na da nb db nc dc N D N' D' : Int} (h1 : rAdd na da nc dc = (N, D, 0)) (h2 : rAdd nb db nc dc = (N', D', 0)) : vCmp N D N' D' = .tuple #[.int .i64 (cmpI (na * db) (nb * da)), .int .i64 0] := by
  obtain ⟨va, vc, v, e, _⟩ := rAdd_ok h1
  obtain ⟨vb, _, v', e', _⟩ := rAdd_ok h2
  have qa := valid_bd va
  have qb := valid_bd vb
  have qc := valid_bd vc
  have q := valid_bd v
  have q' := valid_bd v'
  rw [vCmp_val v v', cmpI_scale (u := na * db) (v := nb * da) (M := da * dc * (db * dc)) (K := D * D' * (dc * dc)) (Int.mul_pos (Int.mul_pos (by omega) (by omega)) (Int.mul_pos (by omega) (by omega))) (Int.mul_pos (Int.mul_pos (by omega) (by omega)) (Int.mul_pos (by omega) (by omega)))]
  clear h1 h2 va vb vc v v'
  grind
/-- Two ints, as a call of Cmp or Ticks answers them. -/
def PvP (w : World) (N E : Int) (e : Ending) (w' : World) : Prop := e = .returned (.tuple #[.int .i64 N, .int .i64 E]) ∧ Below w.heap.size w w'
theorem PvP.of {w : World} {v : Value} {N E : Int} {e : Ending} {w' : World} (h : ValP w v e w') (hv : v = .tuple #[.int .i64 N, .int .i64 E]) : PvP w N E e w' := by
  subst hv
  exact h
theorem CmpT_n {n1 d1 n2 d2 N E : Int} (h : vCmp n1 d1 n2 d2 = .tuple #[.int .i64 N, .int .i64 E]) (w : World) : Calls Try.prog 37 #[.agg #[.int .i64 n1, .int .i64 d1], .agg #[.int .i64 n2, .int .i64 d2]] w (PvP w N E) := (Cmp_n n1 d1 n2 d2 w).mono fun e w' hp => PvP.of hp h
end Go.Proofs.Ytdginjpppgfdaaa.Lc

namespace Go.Proofs.Ytdginjpppgfdaaa.Or
open Go.RowKit Go Go.Proofs.YtdginjpppgfdaaaW.PrintWords Go.Proofs.YtdginjpppgfdaaaW.PrintLast Go.Proofs.YtdginjpppgfdaaaW.PrintMore Go.Proofs.Ytdginjpppgfdaaa.Mn Go.Proofs.Ytdginjpppgfdaaa.Nd Go.Proofs.Ytdginjpppgfdaaa.Ea Go.Proofs.Ytdginjpppgfdaaa.Eb Go.Proofs.Ytdginjpppgfdaaa.Ec Go.Proofs.Ytdginjpppgfdaaa.Ee Go.Proofs.Ytdginjpppgfdaaa.Ra Go.Proofs.Ytdginjpppgfdaaa.Rb Go.Proofs.Ytdginjpppgfdaaa.Rc Go.Proofs.Ytdginjpppgfdaaa.Rd Go.Proofs.Ytdginjpppgfdaaa.Lb Go.Proofs.Ytdginjpppgfdaaa.Lw Go.Proofs.Ytdginjpppgfdaaa.Lc
set_option linter.unusedVariables false
set_option linter.unusedSimpArgs false

set_option maxHeartbeats 32000000 in
set_option maxRecDepth 100000 in
theorem walk (na da nb db nc dc : Int) (w : World) (_ : (Lit.int .i64 na).wf = true) (_ : (Lit.int .i64 da).wf = true) (_ : (Lit.int .i64 nb).wf = true) (_ : (Lit.int .i64 db).wf = true) (_ : (Lit.int .i64 nc).wf = true) (_ : (Lit.int .i64 dc).wf = true) :
    Calls Try.prog 11 #[.agg #[.int .i64 na, .int .i64 da], .agg #[.int .i64 nb, .int .i64 db], .agg #[.int .i64 nc, .int .i64 dc]] w (fun e w' => e = .returned (.bool true) ∧ Below w.heap.size w w') := by
  have hu := Try.underlying25
  cases hv : (valid na da && (valid nb db && valid nc dc)) with
  | false =>
    obtain ⟨c1, c2, c3, c4, e1, e2, e3, e4, h1, h2, h3, h4, he⟩ : ∃ c1 c2 c3 c4 e1 e2 e3 e4 : Int, vCmp na da nb db = .tuple #[.int .i64 c1, .int .i64 e1] ∧ vCmp nb db na da = .tuple #[.int .i64 c2, .int .i64 e2] ∧ vCmp nb db nc dc = .tuple #[.int .i64 c3, .int .i64 e3] ∧ vCmp na da nc dc = .tuple #[.int .i64 c4, .int .i64 e4] ∧ ((e1 != 0) = true ∨ (e1 != 0) = false ∧ (e3 != 0) = true) := by
      have form : ∀ x y z t : Int, ∃ c e, vCmp x y z t = .tuple #[.int .i64 c, .int .i64 e] := by
        intro x y z t
        unfold vCmp two er
        split
        all_goals exact ⟨_, _, rfl⟩
      obtain ⟨c2, e2, h2⟩ := form nb db na da
      obtain ⟨c4, e4, h4⟩ := form na da nc dc
      cases h12 : (valid na da && valid nb db) with
      | false =>
        obtain ⟨c3, e3, h3⟩ := form nb db nc dc
        exact ⟨_, c2, c3, c4, _, e2, e3, e4, vCmp_bad h12, h2, h3, h4, .inl rfl⟩
      | true =>
        simp only [Bool.and_eq_true] at h12
        have h23 : (valid nb db && valid nc dc) = false := by rw [h12.1] at hv; simpa using hv
        exact ⟨_, c2, _, c4, _, e2, _, e4, vCmp_val h12.1 h12.2, h2, vCmp_bad h23, h4, .inr ⟨rfl, rfl⟩⟩
    have HC := Aside0.mk (And.intro (CmpT_n h1) (And.intro (CmpT_n h2) (And.intro (CmpT_n h3) (CmpT_n h4))))
    clear h1 h2 h3 h4 hv
    go_enter Try.func11, Try.ntmps11
    go_wp2_with fail
    refine (HC.out.1 _).mono ?_
    rintro e w1 ⟨rfl, hb⟩
    have HS1 := Aside0.mk (St.call ((((St.start w).box (na) (da) (g := w.heap.size) (by simp)).box (nb) (db) (g := w.heap.size + 1) (by simp)).box (nc) (dc) (g := w.heap.size + 1 + 1) (by simp)) hb)
    clear hb
    obtain ⟨q_b0, q_b1⟩ := HS1.out.get (g := w.heap.size + 1) (n := nb) (d := db) (by simp)
    have q_b2 := HS1.out.lt (g := w.heap.size + 1) (n := nb) (d := db) (by simp)
    obtain ⟨q_a0, q_a1⟩ := HS1.out.get (g := w.heap.size) (n := na) (d := da) (by simp)
    have q_a2 := HS1.out.lt (g := w.heap.size) (n := na) (d := da) (by simp)
    go_wp2_with fail
    refine (HC.out.2.1 _).mono ?_
    rintro e w2 ⟨rfl, hb⟩
    have HS2 := Aside0.mk (St.call (HS1.out) hb)
    clear hb
    clear q_b0 q_b1 q_b2 q_a0 q_a1 q_a2
    obtain ⟨q_b0, q_b1⟩ := HS2.out.get (g := w.heap.size + 1) (n := nb) (d := db) (by simp)
    have q_b2 := HS2.out.lt (g := w.heap.size + 1) (n := nb) (d := db) (by simp)
    obtain ⟨q_c0, q_c1⟩ := HS2.out.get (g := w.heap.size + 1 + 1) (n := nc) (d := dc) (by simp)
    have q_c2 := HS2.out.lt (g := w.heap.size + 1 + 1) (n := nc) (d := dc) (by simp)
    go_wp2_with fail
    refine (HC.out.2.2.1 _).mono ?_
    rintro e w3 ⟨rfl, hb⟩
    have HS3 := Aside0.mk (St.call (HS2.out) hb)
    clear hb
    clear q_b0 q_b1 q_b2 q_c0 q_c1 q_c2
    obtain ⟨q_a0, q_a1⟩ := HS3.out.get (g := w.heap.size) (n := na) (d := da) (by simp)
    have q_a2 := HS3.out.lt (g := w.heap.size) (n := na) (d := da) (by simp)
    obtain ⟨q_c0, q_c1⟩ := HS3.out.get (g := w.heap.size + 1 + 1) (n := nc) (d := dc) (by simp)
    have q_c2 := HS3.out.lt (g := w.heap.size + 1 + 1) (n := nc) (d := dc) (by simp)
    go_wp2_with fail
    refine (HC.out.2.2.2 _).mono ?_
    rintro e w4 ⟨rfl, hb⟩
    have HS4 := Aside0.mk (St.call (HS3.out) hb)
    clear hb
    clear q_a0 q_a1 q_a2 q_c0 q_c1 q_c2
    rcases he with he | ⟨he, he2⟩
    all_goals
      go_wp2_with fail
      refine (awake_n _).mono ?_
      rintro e wz ⟨rfl, hb⟩
      go_wp2_with fail
      go_ret
      exact ⟨rfl, (St.call (HS4.out) hb).b⟩
  | true =>
    simp only [Bool.and_eq_true] at hv
    obtain ⟨va, vb, vc⟩ := hv
    have hba := vCmp_val vb va
    rw [cmpI_swap (na * db) (nb * da)] at hba
    have ht := cmp_trans (na := na) (nb := nb) (nc := nc) (valid_bd va).1 (valid_bd vb).1 (valid_bd vc).1
    rcases h1 : rAdd na da nc dc with ⟨N1, D1, E1⟩
    rcases h2 : rAdd nb db nc dc with ⟨N2, D2, E2⟩
    have hs : E1 = 0 → E2 = 0 → vCmp N1 D1 N2 D2 = .tuple #[.int .i64 (cmpI (na * db) (nb * da)), .int .i64 0] := by
      rintro rfl rfl
      exact cmp_sums h1 h2
    have HC := And.intro (CmpT_n (vCmp_val va vb)) (And.intro (CmpT_n hba) (And.intro (CmpT_n (vCmp_val vb vc)) (CmpT_n (vCmp_val va vc))))
    have HD := Aside0.mk (And.intro (AddT_n h1) (AddT_n h2))
    have x3 := cmpI_3 (na * db) (nb * da)
    have y3 := cmpI_3 (nb * dc) (nc * db)
    have z3 := cmpI_3 (na * dc) (nc * da)
    generalize hx : cmpI (na * db) (nb * da) = x at *
    generalize hy : cmpI (nb * dc) (nc * db) = y at *
    generalize hz : cmpI (na * dc) (nc * da) = z at *
    have x4 : x = -1 ∨ x = 0 ∨ x = 1 := by omega
    have y4 : y = -1 ∨ y = 0 ∨ y = 1 := by omega
    have z4 : z = -1 ∨ z = 0 ∨ z = 1 := by omega
    have HT := Aside0.mk (And.intro ht (And.intro (And.intro x4 (And.intro y4 z4)) hs))
    have HC := Aside0.mk HC
    clear x3 y3 z3 hx hy hz x4 y4 z4 ht hs h1 h2 hba va vb vc
    go_enter Try.func11, Try.ntmps11
    go_wp2_with fail
    refine (HC.out.1 _).mono ?_
    rintro e w1 ⟨rfl, hb⟩
    have HS1 := Aside0.mk (St.call ((((St.start w).box (na) (da) (g := w.heap.size) (by simp)).box (nb) (db) (g := w.heap.size + 1) (by simp)).box (nc) (dc) (g := w.heap.size + 1 + 1) (by simp)) hb)
    clear hb
    obtain ⟨q_b0, q_b1⟩ := HS1.out.get (g := w.heap.size + 1) (n := nb) (d := db) (by simp)
    have q_b2 := HS1.out.lt (g := w.heap.size + 1) (n := nb) (d := db) (by simp)
    obtain ⟨q_a0, q_a1⟩ := HS1.out.get (g := w.heap.size) (n := na) (d := da) (by simp)
    have q_a2 := HS1.out.lt (g := w.heap.size) (n := na) (d := da) (by simp)
    go_wp2_with fail
    refine (HC.out.2.1 _).mono ?_
    rintro e w2 ⟨rfl, hb⟩
    have HS2 := Aside0.mk (St.call (HS1.out) hb)
    clear hb
    clear q_b0 q_b1 q_b2 q_a0 q_a1 q_a2
    obtain ⟨q_b0, q_b1⟩ := HS2.out.get (g := w.heap.size + 1) (n := nb) (d := db) (by simp)
    have q_b2 := HS2.out.lt (g := w.heap.size + 1) (n := nb) (d := db) (by simp)
    obtain ⟨q_c0, q_c1⟩ := HS2.out.get (g := w.heap.size + 1 + 1) (n := nc) (d := dc) (by simp)
    have q_c2 := HS2.out.lt (g := w.heap.size + 1 + 1) (n := nc) (d := dc) (by simp)
    go_wp2_with fail
    refine (HC.out.2.2.1 _).mono ?_
    rintro e w3 ⟨rfl, hb⟩
    have HS3 := Aside0.mk (St.call (HS2.out) hb)
    clear hb
    clear q_b0 q_b1 q_b2 q_c0 q_c1 q_c2
    obtain ⟨q_a0, q_a1⟩ := HS3.out.get (g := w.heap.size) (n := na) (d := da) (by simp)
    have q_a2 := HS3.out.lt (g := w.heap.size) (n := na) (d := da) (by simp)
    obtain ⟨q_c0, q_c1⟩ := HS3.out.get (g := w.heap.size + 1 + 1) (n := nc) (d := dc) (by simp)
    have q_c2 := HS3.out.lt (g := w.heap.size + 1 + 1) (n := nc) (d := dc) (by simp)
    go_wp2_with fail
    refine (HC.out.2.2.2 _).mono ?_
    rintro e w4 ⟨rfl, hb⟩
    have HS4 := Aside0.mk (St.call (HS3.out) hb)
    clear hb
    clear q_a0 q_a1 q_a2 q_c0 q_c1 q_c2
    go_upto_region 7 with fail
    go_cut [83] (fun s w' => s = .bool false ∧ Aside0 (St w w' [(w.heap.size + 1 + 1, nc, dc), (w.heap.size + 1, nb, db), (w.heap.size, na, da)]))
    case first =>
      have ht := HT.out.1
      obtain ⟨x4, y4, z4⟩ := HT.out.2.1
      clear HT HC HD
      rcases x4 with rfl | rfl | rfl <;> rcases y4 with rfl | rfl | rfl <;> rcases z4 with rfl | rfl | rfl
      all_goals first
        | (exfalso; exact ht (by decide))
        | (clear ht; go_wp2_with fail; go_meet; exact ⟨rfl, HS4⟩)
    case rest =>
      obtain ⟨rfl, HA⟩ := hcut
      clear HS4
      obtain ⟨q_a0, q_a1⟩ := HA.out.get (g := w.heap.size) (n := na) (d := da) (by simp)
      have q_a2 := HA.out.lt (g := w.heap.size) (n := na) (d := da) (by simp)
      obtain ⟨q_c0, q_c1⟩ := HA.out.get (g := w.heap.size + 1 + 1) (n := nc) (d := dc) (by simp)
      have q_c2 := HA.out.lt (g := w.heap.size + 1 + 1) (n := nc) (d := dc) (by simp)
      go_wp2_with fail
      refine (HD.out.1 _).mono ?_
      rintro e w5 ⟨rfl, hb⟩
      have HS5 := Aside0.mk (St.call (HA.out) hb)
      clear hb
      clear q_a0 q_a1 q_a2 q_c0 q_c1 q_c2
      obtain ⟨q_b0, q_b1⟩ := HS5.out.get (g := w.heap.size + 1) (n := nb) (d := db) (by simp)
      have q_b2 := HS5.out.lt (g := w.heap.size + 1) (n := nb) (d := db) (by simp)
      obtain ⟨q_c0, q_c1⟩ := HS5.out.get (g := w.heap.size + 1 + 1) (n := nc) (d := dc) (by simp)
      have q_c2 := HS5.out.lt (g := w.heap.size + 1 + 1) (n := nc) (d := dc) (by simp)
      go_wp2_with fail
      refine (HD.out.2 _).mono ?_
      rintro e w6 ⟨rfl, hb⟩
      have HS6 := Aside0.mk (St.call ((HS5.out).box (N1) (D1) (g := w5.heap.size) (by simp)) hb)
      clear hb
      clear q_b0 q_b1 q_b2 q_c0 q_c1 q_c2
      obtain ⟨q_a0, q_a1⟩ := HS6.out.get (g := w.heap.size) (n := na) (d := da) (by simp)
      have q_a2 := HS6.out.lt (g := w.heap.size) (n := na) (d := da) (by simp)
      obtain ⟨q_b0, q_b1⟩ := HS6.out.get (g := w.heap.size + 1) (n := nb) (d := db) (by simp)
      have q_b2 := HS6.out.lt (g := w.heap.size + 1) (n := nb) (d := db) (by simp)
      obtain ⟨q_c0, q_c1⟩ := HS6.out.get (g := w.heap.size + 1 + 1) (n := nc) (d := dc) (by simp)
      have q_c2 := HS6.out.lt (g := w.heap.size + 1 + 1) (n := nc) (d := dc) (by simp)
      obtain ⟨q_x0, q_x1⟩ := HS6.out.get (g := w5.heap.size) (n := N1) (d := D1) (by simp)
      have q_x2 := HS6.out.lt (g := w5.heap.size) (n := N1) (d := D1) (by simp)
      clear q_a0 q_a1 q_a2 q_b0 q_b1 q_b2 q_c0 q_c1 q_c2
      by_cases c1 : E1 = 0
      ·
        by_cases c2 : E2 = 0
        ·
          have HX := Aside0.mk (CmpT_n (HT.out.2.2 c1 c2))
          have e1 : (E1 == 0) = true := by simpa using c1
          have e2 : (E2 == 0) = true := by simpa using c2
          clear c1 c2
          go_wp2_with fail
          refine (HX.out _).mono ?_
          rintro e w7 ⟨rfl, hb⟩
          have HS7 := Aside0.mk (St.call ((HS6.out).box (N2) (D2) (g := w6.heap.size) (by simp)) hb)
          clear hb
          clear q_x0 q_x1 q_x2
          go_wp2_with fail
          refine (awake_n _).mono ?_
          rintro e wz ⟨rfl, hb⟩
          go_wp2_with fail
          go_ret
          exact ⟨rfl, (St.call (HS7.out) hb).b⟩
        ·
          have e1 : (E1 == 0) = true := by simpa using c1
          have e2 : (E2 == 0) = false := by simpa using c2
          clear c1 c2
          go_wp2_with fail
          refine (awake_n _).mono ?_
          rintro e wz ⟨rfl, hb⟩
          go_wp2_with fail
          go_ret
          exact ⟨rfl, (St.call ((HS6.out).box (N2) (D2) (g := w6.heap.size) (by simp)) hb).b⟩
      ·
        have e1 : (E1 == 0) = false := by simpa using c1
        clear c1
        go_wp2_with fail
        refine (awake_n _).mono ?_
        rintro e wz ⟨rfl, hb⟩
        go_wp2_with fail
        go_ret
        exact ⟨rfl, (St.call ((HS6.out).box (N2) (D2) (g := w6.heap.size) (by simp)) hb).b⟩
end Go.Proofs.Ytdginjpppgfdaaa.Or

namespace Go.Proofs.Ytdginjpppgfdaaa.exactOrderRow
open Go.ChangeShapes Go.WideShapes Go.ChangeAt Go.RowKit Go.Proofs.Ytdginjpppgfdaaa.O5
set_option linter.unusedVariables false
set_option maxRecDepth 100000 in
theorem lifted (os : Os) (started : os.Started) (H : Type) (enc : TypeId × Value → H) :
    ReturnsInHanded {} Try.checked os 11 .any (Rows.exactOrderSpec.pre6 enc Try.prog Try.f11 Rows.exactOrderRow.domain false) (Rows.exactOrderSpec.post enc Try.prog Try.f11 false true false false) := by
  refine returnsInHanded_of_change_sized (C := Try.checked) own started (by kernel_rfl) Try.func11
    (ChangeSpec.witness6 (enc := enc) (C := Try.checked) false ⟨#[], #[.agg #[.int .i64 0, .int .i64 0], .agg #[.int .i64 0, .int .i64 0], .agg #[.int .i64 0, .int .i64 0]], []⟩ 8 (by kernel_rfl) (by kernel_rfl) (by kernel_rfl) (by kernel_rfl)) ?_
  intro W base args ds gs before hval0 hW hcnd hsz0 _
  have hval : ∀ (j : Nat) t v, Try.f11.params[j]? = some t → args[j]? = some v → Value.okWide Try.prog W .any base t v := hval0
  have hW' := hW
  obtain ⟨p, q, hA0, hV, rfl, hfz, hnd⟩ := hW
  have hA : DataW.TrodAll enc Try.prog W 0 (fun _ => true) true Try.f11.params.toList args.toList ds p := hA0
  rw [Try.params11] at hA hval
  obtain ⟨v0, vs0, d0, ds0, p0, q0, hargs, rfl, rfl, h0, r0⟩ := trodAll_cons hA
  obtain ⟨v1, vs1, d1, ds1, p1, q1, rfl, rfl, rfl, h1, r1⟩ := trodAll_cons r0
  obtain ⟨v2, vs2, d2, ds2, p2, q2, rfl, rfl, rfl, h2, r2⟩ := trodAll_cons r1
  obtain ⟨rfl, rfl, rfl⟩ := trodAll_nil r2
  obtain rfl : args = #[v0, v1, v2] := by cases args; simp_all
  obtain ⟨rfl, rfl⟩ := trodVars_none hV
  have k0 := h0
  have lt0 : ∀ x ∈ p0, x.block < W.heap.size := by obtain ⟨m, hm⟩ := k0; exact DataW.trod_lt m _ _ _ hm
  obtain ⟨a0_0, a0_1, rfl, w0_0, w0_1⟩ := open_time (hval 0 25 v0 rfl rfl) h0
  have k1 := h1
  have lt1 : ∀ x ∈ p1, x.block < W.heap.size := by obtain ⟨m, hm⟩ := k1; exact DataW.trod_lt m _ _ _ hm
  obtain ⟨a1_0, a1_1, rfl, w1_0, w1_1⟩ := open_time (hval 1 25 v1 rfl rfl) h1
  have k2 := h2
  have lt2 : ∀ x ∈ p2, x.block < W.heap.size := by obtain ⟨m, hm⟩ := k2; exact DataW.trod_lt m _ _ _ hm
  obtain ⟨a2_0, a2_1, rfl, w2_0, w2_1⟩ := open_time (hval 2 25 v2 rfl rfl) h2
  clear hA0 hval0 hsz0
  refine (Or.walk a0_0 a0_1 a1_0 a1_1 a2_0 a2_1 W w0_0 w0_1 w1_0 w1_1 w2_0 w2_1).mono fun e W' ⟨he, bel⟩ => ?_
  subst he
  exact ⟨_, rfl, _, _, _, [], _, [], hW', trodAll_mk1 (shut_bool Try.underlying4 _), (trodAll_cons_mk (Below.trod laidOut (by kernel_rfl) (of_decide_eq_true (by kernel_rfl)) k0 bel lt0) (trodAll_cons_mk (Below.trod laidOut (by kernel_rfl) (of_decide_eq_true (by kernel_rfl)) k1 bel lt1) (trodAll_cons_mk (Below.trod laidOut (by kernel_rfl) (of_decide_eq_true (by kernel_rfl)) k2 bel lt2) trodAll_mk0))), rfl, bel.frame _, fun h => by cases h⟩
theorem over : Rows.exactOrderRow.holds Try.pinned (OpenSpec.ofChange Rows.exactOrderSpec) :=
  OpenClaim.holds_of_wide 11 Try.f11 rfl rfl rfl rfl rfl rfl rfl ⟨rfl, rfl, rfl, rfl, rfl⟩ rfl rfl rfl rfl rfl (by kernel_rfl) Try.func11 (by kernel_rfl)
    (of_decide_eq_true (by kernel_rfl)) (by unfold Func.isWrapper; first | (rw [if_pos (by decide +kernel)]; kernel_rfl) | (rw [if_neg (by decide +kernel)]; exact ⟨rfl, rfl⟩))
    (fun os started H enc _ => lifted os started H enc)
end Go.Proofs.Ytdginjpppgfdaaa.exactOrderRow
namespace Go.Proofs.Ytdginjpppgfdaaa
/-- The row, under a short name, for the claim. -/
theorem exactOrder_holds : Rows.ExactOrderSaid := exactOrderRow.over
#print axioms exactOrder_holds
end Go.Proofs.Ytdginjpppgfdaaa

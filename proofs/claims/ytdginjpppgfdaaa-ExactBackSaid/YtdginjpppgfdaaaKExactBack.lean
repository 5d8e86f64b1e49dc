/-
  ExactBack: for every input the law returns true. ExactBack: a difference takes a sum back, and a quotient a product.
-/
import Derived.Test.YtdginjpppgfdaaaKd
import Derived.Test.YtdginjpppgfdaaaKc
import Derived.Test.YtdginjpppgfdaaaRows
import Derived.WalkKit
import Derived.ProofKit
import Derived.OpenShut
import Derived.ChangeOld
import Derived.Below
import Derived.SizedLaws
import Derived.Carry
namespace Go.Proofs.Ytdginjpppgfdaaa.Ba
open Go.RowKit Go Go.Proofs.YtdginjpppgfdaaaW.PrintWords Go.Proofs.YtdginjpppgfdaaaW.PrintLast Go.Proofs.YtdginjpppgfdaaaW.PrintMore Go.Proofs.Ytdginjpppgfdaaa.Mn Go.Proofs.Ytdginjpppgfdaaa.Nd Go.Proofs.Ytdginjpppgfdaaa.Ea Go.Proofs.Ytdginjpppgfdaaa.Eb Go.Proofs.Ytdginjpppgfdaaa.Ec Go.Proofs.Ytdginjpppgfdaaa.Ee Go.Proofs.Ytdginjpppgfdaaa.Ra Go.Proofs.Ytdginjpppgfdaaa.Rb Go.Proofs.Ytdginjpppgfdaaa.Rc Go.Proofs.Ytdginjpppgfdaaa.Rd Go.Proofs.Ytdginjpppgfdaaa.Lb Go.Proofs.Ytdginjpppgfdaaa.Lw Go.Proofs.Ytdginjpppgfdaaa.La
set_option linter.unusedVariables false
set_option linter.unusedSimpArgs false

theorem rLow_of {n d : Int} (hv : valid n d = true) : rLow n d = (lowN n d, lowD n d, 0) := by
  have q := valid_bd hv
  unfold rLow
  rw [(ratN_pos (n := n) (d := d) (by omega)).1, (ratN_pos (n := n) (d := d) (by omega)).2, low_valid q.1 (by omega) (by omega) (by omega)]
  rfl
theorem back_add {na da nb db N D : Int} (h : rAdd na da nb db = (N, D, 0)) : rLowest na da = (lowN na da, lowD na da, 0) ∧ rSub N D nb db = (lowN na da, lowD na da, 0) := by
  obtain ⟨va, vb, v, e, _⟩ := rAdd_ok h
  have qa := valid_bd va
  have qb := valid_bd vb
  have q := valid_bd v
  constructor
  · unfold rLowest
    rw [va]
    rfl
  · rw [rSub_val v vb, ← rLow_of va]
    refine rLow_same (mul_pos' q.1 qb.1) (by omega) ?_
    refine Int.eq_of_mul_eq_mul_right (a := db) (by omega) ?_
    clear h va vb v
    grind
theorem back_mul {na da nb db N D : Int} (h : rMul na da nb db = (N, D, 0)) (hb : nb ≠ 0) : rLowest na da = (lowN na da, lowD na da, 0) ∧ rDiv N D nb db = (lowN na da, lowD na da, 0) := by
  obtain ⟨va, vb, v, e, _⟩ := rMul_ok h
  have qa := valid_bd va
  have qb := valid_bd vb
  have q := valid_bd v
  constructor
  · unfold rLowest
    rw [va]
    rfl
  · unfold rDiv
    rw [v, vb, if_neg hb, ← rLow_of va]
    simp only [Bool.and_self, if_true]
    refine rLow_same (mul_ne' (by omega) hb) (by omega) ?_
    refine Int.eq_of_mul_eq_mul_right (a := db) (by omega) ?_
    clear h va vb v
    grind
set_option maxHeartbeats 32000000 in
set_option maxRecDepth 100000 in
theorem walk (na da nb db : Int) (w : World) (_ : (Lit.int .i64 na).wf = true) (_ : (Lit.int .i64 da).wf = true) (_ : (Lit.int .i64 nb).wf = true) (_ : (Lit.int .i64 db).wf = true) :
    Calls Try.prog 15 #[.agg #[.int .i64 na, .int .i64 da], .agg #[.int .i64 nb, .int .i64 db]] w (fun e w' => e = .returned (.bool true) ∧ Below w.heap.size w w') := by
  have hu := Try.underlying25
  rcases h0 : rLowest na da with ⟨LN, LD, LE⟩
  rcases h1 : rAdd na da nb db with ⟨N1, D1, E1⟩
  rcases h2 : rMul na da nb db with ⟨N2, D2, E2⟩
  have s1 : E1 = 0 → LE = 0 ∧ rSub N1 D1 nb db = (LN, LD, 0) := by
    rintro rfl
    have := back_add h1
    rw [h0] at this
    simp only [Prod.mk.injEq] at this
    obtain ⟨⟨rfl, rfl, rfl⟩, h⟩ := this
    exact ⟨rfl, h⟩
  have s2 : E2 = 0 → nb ≠ 0 → LE = 0 ∧ rDiv N2 D2 nb db = (LN, LD, 0) := by
    rintro rfl hb
    have := back_mul h2 hb
    rw [h0] at this
    simp only [Prod.mk.injEq] at this
    obtain ⟨⟨rfl, rfl, rfl⟩, h⟩ := this
    exact ⟨rfl, h⟩
  have HC := Aside0.mk (And.intro (And.intro s1 s2) (And.intro (LowestT_n h0) (And.intro (AddT_n h1) (MulT_n h2))))
  clear s1 s2 h0 h1 h2
  go_enter Try.func15, Try.ntmps15
  go_wp2_with fail
  refine (HC.out.2.1 _).mono ?_
  rintro e w1 ⟨rfl, hb⟩
  have HS1 := Aside0.mk (St.call (((St.start w).box (na) (da) (g := w.heap.size) (by simp)).box (nb) (db) (g := w.heap.size + 1) (by simp)) hb)
  clear hb
  obtain ⟨q_a0, q_a1⟩ := HS1.out.get (g := w.heap.size) (n := na) (d := da) (by simp)
  have q_a2 := HS1.out.lt (g := w.heap.size) (n := na) (d := da) (by simp)
  obtain ⟨q_b0, q_b1⟩ := HS1.out.get (g := w.heap.size + 1) (n := nb) (d := db) (by simp)
  have q_b2 := HS1.out.lt (g := w.heap.size + 1) (n := nb) (d := db) (by simp)
  go_wp2_with fail
  refine (HC.out.2.2.1 _).mono ?_
  rintro e w2 ⟨rfl, hb⟩
  have HS2 := Aside0.mk (St.call ((HS1.out).box (LN) (LD) (g := w1.heap.size) (by simp)) hb)
  clear hb
  clear q_a0 q_a1 q_a2 q_b0 q_b1 q_b2
  obtain ⟨q_a0, q_a1⟩ := HS2.out.get (g := w.heap.size) (n := na) (d := da) (by simp)
  have q_a2 := HS2.out.lt (g := w.heap.size) (n := na) (d := da) (by simp)
  obtain ⟨q_b0, q_b1⟩ := HS2.out.get (g := w.heap.size + 1) (n := nb) (d := db) (by simp)
  have q_b2 := HS2.out.lt (g := w.heap.size + 1) (n := nb) (d := db) (by simp)
  obtain ⟨q_low0, q_low1⟩ := HS2.out.get (g := w1.heap.size) (n := LN) (d := LD) (by simp)
  have q_low2 := HS2.out.lt (g := w1.heap.size) (n := LN) (d := LD) (by simp)
  by_cases c1 : E1 = 0
  ·
    have e1 : (E1 == 0) = true := by simpa using c1
    obtain ⟨e0, hd⟩ := HC.out.1.1 c1
    have HS := Aside0.mk (SubT_n hd)
    have el : (LE != 0) = false := by simpa using e0
    clear c1 e0 hd
    go_wp2_with fail
    refine (HS.out _).mono ?_
    rintro e w3 ⟨rfl, hb⟩
    have HS3 := Aside0.mk (St.call ((HS2.out).box (N1) (D1) (g := w2.heap.size) (by simp)) hb)
    clear hb
    clear q_a0 q_a1 q_a2 q_b0 q_b1 q_b2 q_low0 q_low1 q_low2
    obtain ⟨q_a0, q_a1⟩ := HS3.out.get (g := w.heap.size) (n := na) (d := da) (by simp)
    have q_a2 := HS3.out.lt (g := w.heap.size) (n := na) (d := da) (by simp)
    obtain ⟨q_b0, q_b1⟩ := HS3.out.get (g := w.heap.size + 1) (n := nb) (d := db) (by simp)
    have q_b2 := HS3.out.lt (g := w.heap.size + 1) (n := nb) (d := db) (by simp)
    obtain ⟨q_low0, q_low1⟩ := HS3.out.get (g := w1.heap.size) (n := LN) (d := LD) (by simp)
    have q_low2 := HS3.out.lt (g := w1.heap.size) (n := LN) (d := LD) (by simp)
    go_wp2_with fail
    refine (HC.out.2.2.2 _).mono ?_
    rintro e w4 ⟨rfl, hb⟩
    have HS4 := Aside0.mk (St.call ((HS3.out).box (LN) (LD) (g := w3.heap.size) (by simp)) hb)
    clear hb
    clear q_a0 q_a1 q_a2 q_b0 q_b1 q_b2 q_low0 q_low1 q_low2
    obtain ⟨q_b0, q_b1⟩ := HS4.out.get (g := w.heap.size + 1) (n := nb) (d := db) (by simp)
    have q_b2 := HS4.out.lt (g := w.heap.size + 1) (n := nb) (d := db) (by simp)
    obtain ⟨q_low0, q_low1⟩ := HS4.out.get (g := w1.heap.size) (n := LN) (d := LD) (by simp)
    have q_low2 := HS4.out.lt (g := w1.heap.size) (n := LN) (d := LD) (by simp)
    by_cases c2 : E2 = 0
    · have e2 : (E2 == 0) = true := by simpa using c2
      by_cases cb : nb = 0
      · have eb : (nb != 0) = false := by simpa using cb
        clear c2 cb
        go_wp2_with fail
        refine (awake_n _).mono ?_
        rintro e wz ⟨rfl, hb⟩
        go_wp2_with fail
        go_ret
        exact ⟨rfl, (St.call ((HS4.out).box (N2) (D2) (g := w4.heap.size) (by simp)) hb).b⟩
      · have eb : (nb != 0) = true := by simpa using cb
        obtain ⟨e0, hd⟩ := HC.out.1.2 c2 cb
        have HD := Aside0.mk (DivT_n hd)
        have el : (LE != 0) = false := by simpa using e0
        clear c2 cb e0 hd
        go_wp2_with fail
        refine (HD.out _).mono ?_
        rintro e w5 ⟨rfl, hb⟩
        have HS5 := Aside0.mk (St.call ((HS4.out).box (N2) (D2) (g := w4.heap.size) (by simp)) hb)
        clear hb
        clear q_b0 q_b1 q_b2 q_low0 q_low1 q_low2
        obtain ⟨q_low0, q_low1⟩ := HS5.out.get (g := w1.heap.size) (n := LN) (d := LD) (by simp)
        have q_low2 := HS5.out.lt (g := w1.heap.size) (n := LN) (d := LD) (by simp)
        go_wp2_with fail
        refine (awake_n _).mono ?_
        rintro e wz ⟨rfl, hb⟩
        go_wp2_with fail
        go_ret
        exact ⟨rfl, (St.call ((HS5.out).box (LN) (LD) (g := w5.heap.size) (by simp)) hb).b⟩
    · have e2 : (E2 == 0) = false := by simpa using c2
      clear c2
      go_wp2_with fail
      refine (awake_n _).mono ?_
      rintro e wz ⟨rfl, hb⟩
      go_wp2_with fail
      go_ret
      exact ⟨rfl, (St.call ((HS4.out).box (N2) (D2) (g := w4.heap.size) (by simp)) hb).b⟩
  ·
    have e1 : (E1 == 0) = false := by simpa using c1
    clear c1
    go_wp2_with fail
    refine (HC.out.2.2.2 _).mono ?_
    rintro e w3 ⟨rfl, hb⟩
    have HS3 := Aside0.mk (St.call ((HS2.out).box (N1) (D1) (g := w2.heap.size) (by simp)) hb)
    clear hb
    clear q_a0 q_a1 q_a2 q_b0 q_b1 q_b2 q_low0 q_low1 q_low2
    obtain ⟨q_b0, q_b1⟩ := HS3.out.get (g := w.heap.size + 1) (n := nb) (d := db) (by simp)
    have q_b2 := HS3.out.lt (g := w.heap.size + 1) (n := nb) (d := db) (by simp)
    obtain ⟨q_low0, q_low1⟩ := HS3.out.get (g := w1.heap.size) (n := LN) (d := LD) (by simp)
    have q_low2 := HS3.out.lt (g := w1.heap.size) (n := LN) (d := LD) (by simp)
    by_cases c2 : E2 = 0
    · have e2 : (E2 == 0) = true := by simpa using c2
      by_cases cb : nb = 0
      · have eb : (nb != 0) = false := by simpa using cb
        clear c2 cb
        go_wp2_with fail
        refine (awake_n _).mono ?_
        rintro e wz ⟨rfl, hb⟩
        go_wp2_with fail
        go_ret
        exact ⟨rfl, (St.call ((HS3.out).box (N2) (D2) (g := w3.heap.size) (by simp)) hb).b⟩
      · have eb : (nb != 0) = true := by simpa using cb
        obtain ⟨e0, hd⟩ := HC.out.1.2 c2 cb
        have HD := Aside0.mk (DivT_n hd)
        have el : (LE != 0) = false := by simpa using e0
        clear c2 cb e0 hd
        go_wp2_with fail
        refine (HD.out _).mono ?_
        rintro e w4 ⟨rfl, hb⟩
        have HS4 := Aside0.mk (St.call ((HS3.out).box (N2) (D2) (g := w3.heap.size) (by simp)) hb)
        clear hb
        clear q_b0 q_b1 q_b2 q_low0 q_low1 q_low2
        obtain ⟨q_low0, q_low1⟩ := HS4.out.get (g := w1.heap.size) (n := LN) (d := LD) (by simp)
        have q_low2 := HS4.out.lt (g := w1.heap.size) (n := LN) (d := LD) (by simp)
        go_wp2_with fail
        refine (awake_n _).mono ?_
        rintro e wz ⟨rfl, hb⟩
        go_wp2_with fail
        go_ret
        exact ⟨rfl, (St.call ((HS4.out).box (LN) (LD) (g := w4.heap.size) (by simp)) hb).b⟩
    · have e2 : (E2 == 0) = false := by simpa using c2
      clear c2
      go_wp2_with fail
      refine (awake_n _).mono ?_
      rintro e wz ⟨rfl, hb⟩
      go_wp2_with fail
      go_ret
      exact ⟨rfl, (St.call ((HS3.out).box (N2) (D2) (g := w3.heap.size) (by simp)) hb).b⟩
end Go.Proofs.Ytdginjpppgfdaaa.Ba

namespace Go.Proofs.Ytdginjpppgfdaaa.exactBackRow
open Go.ChangeShapes Go.WideShapes Go.ChangeAt Go.RowKit Go.Proofs.Ytdginjpppgfdaaa.O5
set_option linter.unusedVariables false
set_option maxRecDepth 100000 in
theorem lifted (os : Os) (started : os.Started) (H : Type) (enc : TypeId × Value → H) :
    ReturnsInHanded {} Try.checked os 15 .any (Rows.exactBackSpec.pre6 enc Try.prog Try.f15 Rows.exactBackRow.domain false) (Rows.exactBackSpec.post enc Try.prog Try.f15 false true false false) := by
  refine returnsInHanded_of_change_sized (C := Try.checked) own started (by kernel_rfl) Try.func15
    (ChangeSpec.witness6 (enc := enc) (C := Try.checked) false ⟨#[], #[.agg #[.int .i64 0, .int .i64 0], .agg #[.int .i64 0, .int .i64 0]], []⟩ 8 (by kernel_rfl) (by kernel_rfl) (by kernel_rfl) (by kernel_rfl)) ?_
  intro W base args ds gs before hval0 hW hcnd hsz0 _
  have hval : ∀ (j : Nat) t v, Try.f15.params[j]? = some t → args[j]? = some v → Value.okWide Try.prog W .any base t v := hval0
  have hW' := hW
  obtain ⟨p, q, hA0, hV, rfl, hfz, hnd⟩ := hW
  have hA : DataW.TrodAll enc Try.prog W 0 (fun _ => true) true Try.f15.params.toList args.toList ds p := hA0
  rw [Try.params15] at hA hval
  obtain ⟨v0, vs0, d0, ds0, p0, q0, hargs, rfl, rfl, h0, r0⟩ := trodAll_cons hA
  obtain ⟨v1, vs1, d1, ds1, p1, q1, rfl, rfl, rfl, h1, r1⟩ := trodAll_cons r0
  obtain ⟨rfl, rfl, rfl⟩ := trodAll_nil r1
  obtain rfl : args = #[v0, v1] := by cases args; simp_all
  obtain ⟨rfl, rfl⟩ := trodVars_none hV
  have k0 := h0
  have lt0 : ∀ x ∈ p0, x.block < W.heap.size := by obtain ⟨m, hm⟩ := k0; exact DataW.trod_lt m _ _ _ hm
  obtain ⟨a0_0, a0_1, rfl, w0_0, w0_1⟩ := open_time (hval 0 25 v0 rfl rfl) h0
  have k1 := h1
  have lt1 : ∀ x ∈ p1, x.block < W.heap.size := by obtain ⟨m, hm⟩ := k1; exact DataW.trod_lt m _ _ _ hm
  obtain ⟨a1_0, a1_1, rfl, w1_0, w1_1⟩ := open_time (hval 1 25 v1 rfl rfl) h1
  clear hA0 hval0 hsz0
  refine (Ba.walk a0_0 a0_1 a1_0 a1_1 W w0_0 w0_1 w1_0 w1_1).mono fun e W' ⟨he, bel⟩ => ?_
  subst he
  exact ⟨_, rfl, _, _, _, [], _, [], hW', trodAll_mk1 (shut_bool Try.underlying4 _), (trodAll_cons_mk (Below.trod laidOut (by kernel_rfl) (of_decide_eq_true (by kernel_rfl)) k0 bel lt0) (trodAll_cons_mk (Below.trod laidOut (by kernel_rfl) (of_decide_eq_true (by kernel_rfl)) k1 bel lt1) trodAll_mk0)), rfl, bel.frame _, fun h => by cases h⟩
theorem over : Rows.exactBackRow.holds Try.pinned (OpenSpec.ofChange Rows.exactBackSpec) :=
  OpenClaim.holds_of_wide 15 Try.f15 rfl rfl rfl rfl rfl rfl rfl ⟨rfl, rfl, rfl, rfl, rfl⟩ rfl rfl rfl rfl rfl (by kernel_rfl) Try.func15 (by kernel_rfl)
    (of_decide_eq_true (by kernel_rfl)) (by unfold Func.isWrapper; first | (rw [if_pos (by decide +kernel)]; kernel_rfl) | (rw [if_neg (by decide +kernel)]; exact ⟨rfl, rfl⟩))
    (fun os started H enc _ => lifted os started H enc)
end Go.Proofs.Ytdginjpppgfdaaa.exactBackRow
namespace Go.Proofs.Ytdginjpppgfdaaa
/-- The row, under a short name, for the claim. -/
theorem exactBack_holds : Rows.ExactBackSaid := exactBackRow.over
#print axioms exactBack_holds
end Go.Proofs.Ytdginjpppgfdaaa
